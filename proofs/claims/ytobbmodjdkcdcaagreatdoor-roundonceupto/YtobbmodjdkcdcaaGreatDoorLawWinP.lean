import Derived.Test.YtobbmodjdkcdcaaGreatDoorRo7
import Derived.Test.YtobbmodjdkcdcaaGreatDoorSimC
import Derived.Test.YtobbmodjdkcdcaaGreatDoorLawSrt
set_option linter.all false
namespace Go.Proofs.YtobbmodjdkcdcaaGreatDoor
open Go Go.Sim
variable [Fu]
def bZ (w:ae):List (List Int):=w.Epochs.flatMap (·.Tags)
def lenOf (w:ae):Nat:=(bZ w).length
structure dp (w:ae):Prop where
 newest:gInt .i64 w.Newest
 num:∀e∈w.Epochs,gInt .i64 e.Number
 tag:∀t∈bZ w,t.length=16∧aH t
 len:lenOf w≤1048576
 eps:w.Epochs.length≤1048576
def part (w:ae) (i:Nat):List (List Int):=(w.Epochs.take i).flatMap (·.Tags)
theorem jR {w:ae} {i:Nat} (h:i<w.Epochs.length):part w (i+1)=part w i++w.Epochs[i].Tags:=by unfold part;rw[List.take_succ_eq_append_getElem h,List.flatMap_append];simp
theorem rz (w:ae):part w w.Epochs.length=bZ w:=by simp[part,bZ]
theorem nY (w:ae) (i:Nat):bZ w=part w i++(w.Epochs.drop i).flatMap (·.Tags):=by unfold part bZ;rw[←List.flatMap_append,List.take_append_drop]
theorem tZ (w:ae) (i:Nat):(part w i).length≤lenOf w:=by unfold lenOf;rw[nY w i,List.length_append];omega
theorem vi {w:ae} {i:Nat} (h:i<w.Epochs.length):w.Epochs[i].Tags.length≤lenOf w:=by have:=tZ w (i+1);rw[jR h,List.length_append] at this;omega
theorem FL {w:ae} {i:Nat} (h:i<w.Epochs.length) {t:List Int} (ht:t∈w.Epochs[i].Tags):t∈bZ w:=List.mem_flatMap.2 ⟨_,List.getElem_mem h,ht⟩
theorem iE {x:Int} (h:gInt .i64 x): -9223372036854775808≤x∧x≤9223372036854775807:=h
section
variable {w:ae}
theorem vj (hw:dp w):ip w=some (lenOf w:Int):=by have hl:=hw.len;have he:=hw.eps;unfold ip;rw[Loop.run_eq0 (st:=λi=>(((part w i).length:Int),(i:Int))) (res:=λ_=>(lenOf w:Int)) (n:=w.Epochs.length)];rfl;intro i hi;left;(have h1:(i:Int)<(w.Epochs.length:Int):=by omega);have h2:=tZ w (i+1);rw[jR hi,List.length_append] at h2;refine⟨?_,rfl⟩;simp only[h1,decide_true,cond_true,cy hi,Option.bind_some];rw[wrap64 (by omega),wrap64 (by omega),jR hi,List.length_append];simp;simp[rz,lenOf];simp[part]
theorem xl (hw:dp w):fI w=some (lenOf w:Int):=by have hl:=hw.len;have he:=hw.eps;unfold fI;rw[Loop.run_eq0 (st:=λi=>(((part w i).length:Int),(i:Int))) (res:=λ_=>(lenOf w:Int)) (n:=w.Epochs.length)];rfl;intro i hi;left;(have h1:(i:Int)<(w.Epochs.length:Int):=by omega);have h2:=tZ w (i+1);rw[jR hi,List.length_append] at h2;refine⟨?_,rfl⟩;simp only[h1,decide_true,cond_true,cy hi,Option.bind_some];rw[wrap64 (by omega),wrap64 (by omega),jR hi,List.length_append];simp;simp[rz,lenOf];simp[part]
theorem C7 (hw:dp w):gU w=some (bZ w):=by have hl:=hw.len;have he:=hw.eps;unfold gU;rw[Loop.run_eq0 (st:=λi=>(part w i,(i:Int))) (res:=λ_=>bZ w) (n:=w.Epochs.length)];rfl;intro i hi;left;(have h1:(i:Int)<(w.Epochs.length:Int):=by omega);have h2:=tZ w (i+1);rw[jR hi,List.length_append] at h2;refine⟨?_,rfl⟩;simp only[h1,decide_true,cond_true,cy hi,Option.bind_some];rw[aR (by unfold room;omega),Option.bind_some,wrap64 (by omega),jR hi];simp;simp[rz];simp[part]
def ke (w:ae):List (List Int):=(bZ w).foldl addk []
theorem Ak {ts:List (List Int)} (hl:ts.length≤1048576) {v:Int} {m:List (List Int×Int)}:
   Loop.run (S:=(Int×(List ((List Int)×Int)))) (R:=(List ((List Int)×Int))) (λ(x483,x484)=>
    bif decide (x483<(ts.length:Int)) then
     (idx ts x483).bind λx494=>
     some (.next (IntKind.wrap .i64 (x483+1),mset x494 v x484))
    else
     some (.done x484)) (0,m)=some (ts.foldl (λm t=>mset t v m) m):=by
 rw[Loop.run_eq0 (st:=λi=>((i:Int),(ts.take i).foldl (λm t=>mset t v m) m)) (res:=λ_=>ts.foldl (λm t=>mset t v m) m) (n:=ts.length)]
 · intro i hi
   left
   have h1:(i:Int)<(ts.length:Int):=by omega
   refine⟨?_,rfl⟩
   simp only[h1,decide_true,cond_true,cy hi,Option.bind_some]
   rw[wrap64 (by omega),List.take_succ_eq_append_getElem hi,List.foldl_append]
   simp
 · simp
 · simp
theorem xm (v:Int):∀(ts:List (List Int)) (m:List (List Int×Int)),(ts.foldl (λm t=>mset t v m) m).map (·.1)=ts.foldl addk (m.map (·.1))|[],m=>rfl|t::ts,m=>by rw[List.foldl_cons,xm v ts,sN];rfl
def qu (w:ae):Nat→List (List Int×Int)|0=>[]|i+1=>match w.Epochs[i]? with|some e=>e.Tags.foldl (λm t=>mset t (i:Int) m) (qu w i)|none=>qu w i
theorem vk:∀i,i≤w.Epochs.length→(qu w i).map (·.1)=(part w i).foldl addk []|0,_=>by simp[qu,part]|i+1,h=>by have hi:i<w.Epochs.length:=h;(have:w.Epochs[i]? =some w.Epochs[i]:=by simp[hi]);rw[qu,this,jR hi,List.foldl_append,←vk i (by omega),←xm]
theorem rF (hw:dp w):∃m,gM w=some m∧m.map (·.1)=ke w:=by have hl:=hw.len;have he:=hw.eps;refine⟨qu w w.Epochs.length,?_,by rw[vk _ (Nat.le_refl _),rz];rfl⟩;unfold gM;rw[Loop.run_eq0 (st:=λi=>((i:Int),qu w i)) (res:=λ_=>qu w w.Epochs.length) (n:=w.Epochs.length)];rfl;intro i hi;left;(have h1:(i:Int)<(w.Epochs.length:Int):=by omega);have h2:=vi hi;refine⟨?_,rfl⟩;simp only[h1,decide_true,cond_true,cy hi,Option.bind_some];rw[Ak (by omega)];simp only[Option.bind_some];rw[wrap64 (by omega)];(have h3:w.Epochs[i]? =some w.Epochs[i]:=by simp[hi]);simp only[qu,h3];simp;simp;simp[qu]
end
theorem ua {a b:List Int} (ha:a.length=16) (hb:b.length=16):dW a b=some (ltL a b):=by unfold dW;(have key:∀i,i<16→(a.drop i=a.getD i 0::a.drop (i+1))∧(b.drop i=b.getD i 0::b.drop (i+1)):=by intro i hi;constructor;rw[List.drop_eq_getElem_cons (by omega)];simp[show i<a.length by omega];rw[List.drop_eq_getElem_cons (by omega)];simp[show i<b.length by omega]);rw [Loop.run_eq0 (st := λi => (i : Int)) (res := λi => if a.drop i = b.drop i then (Sum.inl () : Unit ⊕ Bool) else .inr (ltL (a.drop i) (b.drop i))) (n := 16)];simp only[List.drop_zero];by_cases h:a=b;subst h;simp[iz];simp[h];intro i hi;obtain⟨k1,k2⟩:=key i hi;(have h1:(i:Int)<16:=by omega);have ia:=cy (xs:=a) (i:=i) (by omega);have ib:=cy (xs:=b) (i:=i) (by omega);(have ea:a.getD i 0=a[i]:=by simp[show i<a.length by omega]);(have eb:b.getD i 0=b[i]:=by simp[show i<b.length by omega]);by_cases hne:a[i]=b[i];left;constructor;simp only[h1,decide_true,cond_true,ia,ib,Option.bind_some,hne,bne_self_eq_false,cond_false];rw[wrap64 (by omega)];simp;rw[k1,k2,ea,eb,hne];generalize a.drop (i+1)=p;generalize b.drop (i+1)=q;generalize b[i]=z;simp[ltL];right;(have hb':(a[i] != b[i])=true:=by simpa using hne);simp only[h1,decide_true,cond_true,ia,ib,Option.bind_some,hb'];rw[k1,k2,ea,eb];generalize a.drop (i+1)=p;generalize b.drop (i+1)=q;generalize a[i]=y at hne⊢;generalize b[i]=z at hne⊢;simp[ltL,hne];simp[List.drop_eq_nil_of_le (show a.length≤16 by omega),List.drop_eq_nil_of_le (show b.length≤16 by omega)];rfl
theorem D9 {a b:List Int}:iQ a b=some (cmpB a b):=by simp[iQ,jI]
def upB:List (List Int)→Nat→Bool|ts,0=>true|ts,i+1=>upB ts i&& !(ltL (ts.getD (i+1) []) (ts.getD i []))
theorem Al {ts:List (List Int)} (ht:∀t∈ts,t.length=16∧aH t) (hl:ts.length≤1048576):cc ts=some (upB ts (ts.length - 1)):=by unfold cc;rcases Nat.eq_zero_or_pos ts.length with h0|h0;have:ts=[]:=List.eq_nil_of_length_eq_zero h0;subst this;rw [Loop.run_done (r := (.inl () : Unit ⊕ Bool))];rfl;simp[wrap64];rw[wrap64 (by omega)];rw [Loop.run_eq0 (st := λj => (ts.length : Int) - 1 - j) (res := λj => if upB ts (ts.length - 1 - j) = true then (Sum.inl () : Unit ⊕ Bool) else .inr false) (n := ts.length - 1)];simp only[Nat.sub_zero];cases upB ts (ts.length - 1)<;>simp;intro j hj;(have e1:(ts.length:Int) - 1 - j=((ts.length - 1 - j:Nat):Int):=by omega);(have e2:(ts.length:Int) - 1 - ((j+1:Nat):Int)=((ts.length - 1 - (j+1):Nat):Int):=by omega);(have e3:ts.length - 1 - j=(ts.length - 1 - (j+1))+1:=by omega);generalize hk:ts.length - 1 - (j+1)=k at e2 e3;(have hk1:k+1<ts.length:=by omega);(have h1:(((k+1:Nat):Int)>0):=by omega);have t1:=ht ts[k+1] (List.getElem_mem hk1);have t2:=ht ts[k] (List.getElem_mem (by omega));have hc:=yX t1.2 t2.2 (by rw[t1.1,t2.1]);(have g1:ts.getD (k+1) []=ts[k+1]:=by simp[hk1]);(have g2:ts.getD k []=ts[k]:=by simp[show k<ts.length by omega]);simp only[e1,e2,e3,h1,decide_true,cond_true,cy hk1,Option.bind_some,upB,g1,g2];rw[wrap64 (by omega),show(((k+1:Nat):Int) - 1)=(k:Int) by omega,cy (show k<ts.length by omega)];simp only[Option.bind_some,D9];by_cases hlt:ltL ts[k+1] ts[k]=true;right;simp[hc.2 hlt,hlt];left;(have hlt':ltL ts[k+1] ts[k]=false:=by simpa using hlt);have hc':¬cmpB ts[k+1] ts[k]<0:=λh=>hlt (hc.1 h);simp[hc',hlt'];(have e1:(ts.length:Int) - 1 - ((ts.length - 1:Nat):Int)=0:=by omega);simp[e1,upB];simp
end Go.Proofs.YtobbmodjdkcdcaaGreatDoor
namespace Go.Proofs.YtobbmodjdkcdcaaGreatDoor
open Go Go.Sim
variable [Fu]
def mrg:List (List Int)→List (List Int)→List (List Int)
 |[],qs=>qs
 |a::ps,[]=>a::ps
 |a::ps,b::qs=>if ltL b a=true then b::mrg (a::ps) qs else if a=b then a::mrg ps qs else a::mrg ps (b::qs)
 termination_by ps qs=>ps.length+qs.length
theorem B3 (ps:List (List Int)):mrg ps []=ps:=by cases ps<;>simp[mrg]
abbrev Rises (l:List (List Int)):Prop:=l.Pairwise λx y=>ltL x y=true
def Tags (l:List (List Int)):Prop:=∀t∈l,t.length=16∧aH t
theorem nZ:∀{ps qs:List (List Int)} {t:List Int},t∈mrg ps qs↔t∈ps∨t∈qs
 |[],qs,t=>by simp[mrg]
 |a::ps,[],t=>by simp[mrg]
 |a::ps,b::qs,t=>by
  unfold mrg
  split
  · have:=nZ (ps:=a::ps) (qs:=qs) (t:=t)
    simp only[List.mem_cons,this]
    constructor
    · rintro(h|(h|h)|h)<;>simp[h]
    · rintro((h|h)|h|h)<;>simp[h]
  · split
    · rename_i h1 h2
      subst h2
      have:=nZ (ps:=ps) (qs:=qs) (t:=t)
      simp only[List.mem_cons,this]
      constructor
      · rintro(h|h|h)<;>simp[h]
      · rintro((h|h)|h|h)<;>simp[h]
    · have:=nZ (ps:=ps) (qs:=b::qs) (t:=t)
      simp only[List.mem_cons,this]
      constructor
      · rintro(h|h|h|h)<;>simp[h]
      · rintro((h|h)|h|h)<;>simp[h]
 termination_by ps qs=>ps.length+qs.length
theorem qe:∀{ps qs:List (List Int)},Tags ps→Tags qs→Rises ps→Rises qs→Rises (mrg ps qs)
 |[],qs,_,_,_,h=>by simpa[mrg] using h
 |a::ps,[],_,_,h,_=>by simpa[mrg] using h
 |a::ps,b::qs,ta,tb,ha,hb=>by
  have ha':=List.pairwise_cons.1 ha
  have hb':=List.pairwise_cons.1 hb
  have ta':Tags ps:=λt ht=>ta t (by simp[ht])
  have tb':Tags qs:=λt ht=>tb t (by simp[ht])
  have la:=(ta a (by simp)).1
  have lb:=(tb b (by simp)).1
  unfold mrg
  split
  · rename_i h1
    refine List.pairwise_cons.2 ⟨λx hx=>?_,qe ta tb' ha hb'.2⟩
    rcases nZ.1 hx with hx|hx
    · rcases List.mem_cons.1 hx with rfl|hx
      · exact h1
      · exact j8 h1 (ha'.1 x hx)
    · exact hb'.1 x hx
  · rename_i h1
    split
    · rename_i h2
      subst h2
      refine List.pairwise_cons.2 ⟨λx hx=>?_,qe ta' tb' ha'.2 hb'.2⟩
      rcases nZ.1 hx with hx|hx
      · exact ha'.1 x hx
      · exact hb'.1 x hx
    · rename_i h2
      have h3:ltL a b=true:=(nM (by rw[la,lb]) h2).resolve_right h1
      refine List.pairwise_cons.2 ⟨λx hx=>?_,qe ta' tb ha'.2 hb⟩
      rcases nZ.1 hx with hx|hx
      · exact ha'.1 x hx
      · rcases List.mem_cons.1 hx with rfl|hx
        · exact h3
        · exact j8 h3 (hb'.1 x hx)
 termination_by ps qs=>ps.length+qs.length
theorem ub:∀{ps qs:List (List Int)},(mrg ps qs).length≤ps.length+qs.length
 |[],qs=>by simp[mrg]
 |a::ps,[]=>by simp[mrg]
 |a::ps,b::qs=>by
  unfold mrg
  split
  · have:=ub (ps:=a::ps) (qs:=qs);simp only[List.length_cons] at this⊢;omega
  · split
    · have:=ub (ps:=ps) (qs:=qs);simp only[List.length_cons] at this⊢;omega
    · have:=ub (ps:=ps) (qs:=b::qs);simp only[List.length_cons] at this⊢;omega
 termination_by ps qs=>ps.length+qs.length
theorem lS {α:Type} {xs:List α} {i:Nat} (h:i<xs.length):xs.drop i=xs[i]::xs.drop (i+1):=List.drop_eq_getElem_cons h
theorem C8 {ps qs:List (List Int)} {step:List (List Int)×Int×Int→Option (Ctl (List (List Int)×Int×Int) (List (List Int)))} (hlen:ps.length+qs.length≤1048576) (h1:∀(acc:List (List Int)) (i j:Nat) (hi:i<ps.length) (hj:j<qs.length),acc.length≤1048576→step (acc,(i:Int),(j:Int))=some (.next (if ltL qs[j] ps[i]=true then(acc++[qs[j]],(i:Int),((j+1:Nat):Int)) else if ps[i]=qs[j] then(acc++[ps[i]],((i+1:Nat):Int),((j+1:Nat):Int)) else(acc++[ps[i]],((i+1:Nat):Int),(j:Int))))) (h2:∀(acc:List (List Int)) (i:Nat) (hi:i<ps.length),acc.length≤1048576→step (acc,(i:Int),(qs.length:Int))=some (.next (acc++[ps[i]],((i+1:Nat):Int),(qs.length:Int)))) (h3:∀(acc:List (List Int)) (j:Nat) (hj:j<qs.length),acc.length≤1048576→step (acc,(ps.length:Int),(j:Int))=some (.next (acc++[qs[j]],(ps.length:Int),((j+1:Nat):Int)))) (h4:∀acc:List (List Int),step (acc,(ps.length:Int),(qs.length:Int))=some (.done acc)):Loop.run step ([],0,0)=some (mrg ps qs):=by (have key:∀(k i j:Nat) (acc:List (List Int)),(ps.length - i)+(qs.length - j)=k→i≤ps.length→j≤qs.length→acc.length+k≤1048576→Loop.run step (acc,(i:Int),(j:Int))=some (acc++mrg (ps.drop i) (qs.drop j)):=by intro k;induction k using Nat.strongRecOn with|_ k ihk=>intro i j acc hk hi hj hacc;by_cases hia:i<ps.length;by_cases hjb:j<qs.length;have hs:=h1 acc i j hia hjb (by omega);rw[lS hia,lS hjb];by_cases hlt:ltL qs[j] ps[i]=true;rw[if_pos hlt] at hs;rw[Loop.run_next hs,ihk (k - 1) (by omega) i (j+1) (acc++[qs[j]]) (by omega) hi (by omega) (by simp;omega),mrg,if_pos hlt,lS hia];simp;rw[if_neg hlt] at hs;by_cases heq:ps[i]=qs[j];rw[if_pos heq] at hs;rw[Loop.run_next hs,ihk (k - 2) (by omega) (i+1) (j+1) (acc++[ps[i]]) (by omega) (by omega) (by omega) (by simp;omega),mrg,if_neg hlt,if_pos heq];simp;rw[if_neg heq] at hs;rw[Loop.run_next hs,ihk (k - 1) (by omega) (i+1) j (acc++[ps[i]]) (by omega) (by omega) hj (by simp;omega),mrg,if_neg hlt,if_neg heq,lS hjb];simp;(have hj2:j=qs.length:=by omega);subst hj2;rw[Loop.run_next (h2 acc i hia (by omega)),ihk (k - 1) (by omega) (i+1) qs.length (acc++[ps[i]]) (by omega) (by omega) hj (by simp;omega)];rw[List.drop_length,B3,B3,lS hia];simp;(have hi2:i=ps.length:=by omega);subst hi2;by_cases hjb:j<qs.length;rw[Loop.run_next (h3 acc j hjb (by omega)),ihk (k - 1) (by omega) ps.length (j+1) (acc++[qs[j]]) (by omega) hi (by omega) (by simp;omega)];rw[List.drop_length,lS hjb];simp[mrg];(have hj2:j=qs.length:=by omega);subst hj2;rw[Loop.run_done (h4 acc),List.drop_length,List.drop_length];simp[mrg]);exact key _ 0 0 [] rfl (by omega) (by omega) (by simp;omega)
theorem C9:∀(fuel:Nat) (xs:List (List Int)),Tags xs→xs.length≤1048576→xs.length≤2^fuel→ ∃ys,cw (fuel+1) xs=some ys∧Rises ys∧(∀t,t∈ys↔t∈xs)∧ys.length≤xs.length:=by intro fuel;induction fuel with|zero=>(intro xs ht hl hf;(have h1:((xs.length:Int)<2):=by omega);refine⟨xs,?_,?_,λt=>Iff.rfl,Nat.le_refl _⟩;rw[cw.eq_2];simp only[h1,decide_true,cond_true];(have:mkB 0 1=true:=by decide);rw[this,cond_true];simp[aR (show([]:List (List Int)).length+xs.length≤room by simp[room];omega)];match xs,hf with|[],_=>simp|[x],_=>simp|_::_::_,h=>simp at h)|succ fuel ih=>intro xs ht hl hf;by_cases h2:xs.length<2;(have h1:((xs.length:Int)<2):=by omega);refine⟨xs,?_,?_,λt=>Iff.rfl,Nat.le_refl _⟩;rw[cw.eq_2];simp only[h1,decide_true,cond_true];(have:mkB 0 1=true:=by decide);rw[this,cond_true];simp[aR (show([]:List (List Int)).length+xs.length≤room by simp[room];omega)];(match xs,h2 with|[],_=>simp|[x],_=>simp|_::_::_,h=>simp at h;omega);(have h1:¬((xs.length:Int)<2):=by omega);(have hp:2^(fuel+1)=2*2^fuel:=by rw[Nat.pow_succ];omega);(have hm:IntKind.i64.wrap (Int.tdiv (xs.length:Int) 2)=((xs.length / 2:Nat):Int):=by rw[Int.tdiv_eq_ediv_of_nonneg (by omega),wrap64 (by omega)];omega);(have s1:sub xs 0 ((xs.length / 2:Nat):Int)=some (xs.take (xs.length / 2)):=by unfold sub;(have:(decide ((0:Int)≤0)&&decide ((0:Int)≤((xs.length / 2:Nat):Int))&&decide (((xs.length / 2:Nat):Int)≤(xs.length:Int)))=true:=by simp;omega);rw[this,cond_true];rfl);(have s2:sub xs ((xs.length / 2:Nat):Int) (xs.length:Int)=some (xs.drop (xs.length / 2)):=by unfold sub;(have:(decide ((0:Int)≤((xs.length / 2:Nat):Int))&&decide (((xs.length / 2:Nat):Int)≤(xs.length:Int))&&decide ((xs.length:Int)≤(xs.length:Int)))=true:=by simp;omega);rw[this,cond_true,Int.toNat_natCast,Int.toNat_natCast,List.take_length]);obtain⟨ps,a1,a2,a3,a4⟩:=ih (xs.take (xs.length / 2)) (λt h=>ht t (List.mem_of_mem_take h)) (by simp;omega) (by simp;omega);obtain⟨qs,b1,b2,b3,b4⟩:=ih (xs.drop (xs.length / 2)) (λt h=>ht t (List.mem_of_mem_drop h)) (by simp;omega) (by simp;omega);simp only[List.length_take,List.length_drop] at a4 b4;have ta:Tags ps:=λt h=>ht t (List.mem_of_mem_take ((a3 t).1 h));have tb:Tags qs:=λt h=>ht t (List.mem_of_mem_drop ((b3 t).1 h));(have hmk:mkB 0 (xs.length:Int)=true:=by have hr:(room:Int)=17179869184:=rfl;simp only[mkB,Bool.and_eq_true,decide_eq_true_eq];omega);refine⟨mrg ps qs,?_,qe ta tb a2 b2,λt=>?_,?_⟩;rw[cw.eq_2];simp only[h1,decide_false,cond_false,hm,s1,Option.bind_some,a1,s2,b1,hmk,cond_true];rw[Option.bind_eq_some_iff.2 ⟨mrg ps qs,?_,rfl⟩];rw[Option.bind_eq_some_iff.2 ⟨mrg ps qs,?_,rfl⟩];simp only[Int.toNat_zero,List.replicate_zero];refine C8 (ps:=ps) (qs:=qs) (by omega) ?_ ?_ ?_ ?_;intro acc i j hia hjb hacc;have ia:=cy hia;have ib:=cy hjb;(have h1:((i:Int)<(ps.length:Int)):=by omega);(have h2:((j:Int)<(qs.length:Int)):=by omega);(have h3:((j:Int)==(qs.length:Int))=false:=by simp;omega);have tai:=ta ps[i] (List.getElem_mem hia);have tbj:=tb qs[j] (List.getElem_mem hjb);(have w1:IntKind.i64.wrap ((i:Int)+1)=((i+1:Nat):Int):=by rw[wrap64 (by omega)];rfl);(have w2:IntKind.i64.wrap ((j:Int)+1)=((j+1:Nat):Int):=by rw[wrap64 (by omega)];rfl);have r1:app acc [ps[i]]=some (acc++[ps[i]]):=aR (by simp[room];omega);have r2:app acc [qs[j]]=some (acc++[qs[j]]):=aR (by simp[room];omega);by_cases hlt:ltL qs[j] ps[i]=true;simp only[h1,h2,h3,decide_true,Bool.or_true,cond_true,cond_false,ib,ia,Option.bind_some,ua tbj.1 tai.1,hlt,Bool.not_true,r2,w2,if_true];(have hlt':ltL qs[j] ps[i]=false:=by simpa using hlt);by_cases heq:ps[i]=qs[j];(have heq':(ps[i]==qs[j])=true:=by simpa using heq);simp only[h1,h2,h3,decide_true,Bool.or_true,cond_true,cond_false,ib,ia,Option.bind_some,ua tbj.1 tai.1,hlt',Bool.not_false,heq',r1,w1,w2,if_pos heq,Bool.false_eq_true,if_false];(have heq':(ps[i]==qs[j])=false:=by simpa using heq);simp only[h1,h2,h3,decide_true,Bool.or_true,cond_true,cond_false,ib,ia,Option.bind_some,ua tbj.1 tai.1,hlt',Bool.not_false,heq',r1,w1,if_neg heq,Bool.false_eq_true,if_false];intro acc i hia hacc;have ia:=cy hia;(have h1:((i:Int)<(ps.length:Int)):=by omega);(have h2:¬((qs.length:Int)<(qs.length:Int)):=by omega);(have w1:IntKind.i64.wrap ((i:Int)+1)=((i+1:Nat):Int):=by rw[wrap64 (by omega)];rfl);have r1:app acc [ps[i]]=some (acc++[ps[i]]):=aR (by simp[room];omega);simp only[h1,h2,beq_self_eq_true,decide_true,decide_false,Bool.true_or,cond_true,cond_false,ia,Option.bind_some,r1,w1];intro acc j hjb hacc;have ib:=cy hjb;(have h1:¬((ps.length:Int)<(ps.length:Int)):=by omega);(have h2:((j:Int)<(qs.length:Int)):=by omega);(have h3:((j:Int)==(qs.length:Int))=false:=by simp;omega);(have w2:IntKind.i64.wrap ((j:Int)+1)=((j+1:Nat):Int):=by rw[wrap64 (by omega)];rfl);have r2:app acc [qs[j]]=some (acc++[qs[j]]):=aR (by simp[room];omega);simp only[h1,h2,h3,decide_true,decide_false,Bool.or_true,cond_true,cond_false,ib,Option.bind_some,r2,w2];intro acc;(have h1:¬((ps.length:Int)<(ps.length:Int)):=by omega);(have h2:¬((qs.length:Int)<(qs.length:Int)):=by omega);simp only[h1,h2,decide_false,Bool.or_false,cond_false];rw[nZ,a3,b3];(have:t∈xs↔t∈xs.take (xs.length / 2)++xs.drop (xs.length / 2):=by rw[List.take_append_drop]);rw[this,List.mem_append];have:=ub (ps:=ps) (qs:=qs);omega
end Go.Proofs.YtobbmodjdkcdcaaGreatDoor
namespace Go.Proofs.YtobbmodjdkcdcaaGreatDoor
open Go Go.Sim
variable [Fu]
def jS (p:Nat→Bool):Nat→Nat→Bool|0,_=>true|k+1,i=>p i&&jS p k (i+1)
theorem jT {p:Nat→Bool}:∀{k i:Nat},jS p k i=true↔∀j,i≤j→j<i+k→p j=true|0,i=>by simp[jS];intro j h1 h2;omega|k+1,i=>by rw[jS,Bool.and_eq_true,jT];constructor;rintro⟨h1,h2⟩ j hj1 hj2;by_cases h:j=i;subst h;exact h1;exact h2 j (by omega) (by omega);intro h;exact⟨h i (by omega) (by omega),λj h1 h2=>h j (by omega) (by omega)⟩
theorem vl {S R:Type} {step:S→Option (Ctl S R)} (st:Nat→S) (n:Nat) (p:Nat→Bool) (good bad:R) (h:∀i,i<n→step (st i)=some (bif p i then .next (st (i+1)) else .done bad)) (he:step (st n)=some (.done good)) {s0:S} (h0:s0=st 0): Loop.run step s0=some (bif jS p n 0 then good else bad):=by have:=Loop.run_eq0 (step:=step) (st:=st) (res:=λi=>bif jS p (n - i) i then good else bad) (n:=n) ?_ ?_ h0;rw[this,Nat.sub_zero];intro i hi;(have e:n - i=(n - (i+1))+1:=by omega);rw[h i hi];(cases hp:p i with|true=>left;refine⟨rfl,?_⟩;rw[e];simp[jS,hp]|false=>right;rw[e];simp[jS,hp]);rw[he,Nat.sub_self];rfl
def epN (w:ae) (i:Nat):Int:=(w.Epochs.getD i ⟨0,[]⟩).Number
def epT (w:ae) (i:Nat):List (List Int):=(w.Epochs.getD i ⟨0,[]⟩).Tags
def okW (w:ae) (s:Int) (i:Nat):Bool:=!(decide (epN w i<0))&&(decide (epN w i≤w.Newest)&&decide (w.Newest - epN w i<s))&& !(decide (0<i)&&decide (epN w i≤epN w (i - 1)))&& !((epT w i).isEmpty)&&upB (epT w i) ((epT w i).length - 1)
def vp (ts:List (List Int)):Bool:=jS (λj=>ltL (ts.getD j []) (ts.getD (j+1) [])) (ts.length - 1) 0
def okR (w:ae) (s:Int) (i:Nat):Bool:=!(decide (epN w i<0))&&(decide (epN w i≤w.Newest)&&decide (w.Newest - epN w i<s))&& !(decide (0<i)&&decide (epN w i≤epN w (i - 1)))&& !((epT w i).isEmpty)&&vp (epT w i)
def c1 (s r:Int):Bool:= !((((decide (s<1))||(decide (s>8)))||(decide (r<0)))||(decide (r>4096)))
def c2 (w:ae) (r:Int):Bool:= !((decide (w.Newest<0))||(decide (w.Newest>4611686018427387904)))&& !(decide ((lenOf w:Int)>r))
def c3 (w:ae):Bool:=((ke w).length:Int)==(lenOf w:Int)
section
variable {w:ae}
theorem qf (hw:dp w) {i:Nat} (h:i<w.Epochs.length):Tags w.Epochs[i].Tags:=λt ht=>hw.tag t (FL h ht)
theorem lT (hw:dp w) {s r:Int}:fM w s r=some (bif c1 s r&&c2 w r&&c3 w&&jS (okW w s) w.Epochs.length 0 then 0 else 2):=by have hl:=hw.len;have he:=hw.eps;obtain⟨m,hm,hk⟩:=rF hw;(have hml:m.length=(ke w).length:=by rw[←hk];simp);unfold fM c1;cases h1:((((decide (s<1))||(decide (s>8)))||(decide (r<0)))||(decide (r>4096))) with|true=>simp|false=>simp only[cond_false,vj hw,Option.bind_some,hm,hml,Bool.not_false,Bool.true_and];unfold c2;cases h2:((decide (w.Newest<0))||(decide (w.Newest>4611686018427387904))) with|true=>simp|false=>simp only[cond_false,Option.bind_some,Bool.not_false,Bool.true_and];cases h3:decide ((lenOf w:Int)>r) with|true=>simp|false=>simp only[cond_false,Option.bind_some,Bool.not_false,Bool.true_and];unfold c3;cases h4:(((ke w).length:Int)==(lenOf w:Int)) with|false=>simp only[bne,h4,Bool.not_false,cond_true,Bool.false_and,cond_false]|true=>simp only[bne,h4,Bool.not_true,cond_false,Bool.true_and];simp only[Bool.or_eq_false_iff,decide_eq_false_iff_not] at h1 h2 h3;rw [vl (st := λi => (i : Int)) (n := w.Epochs.length) (p := okW w s) (good := (.inl () : Unit ⊕ Int)) (bad := .inr 2)];cases jS (okW w s) w.Epochs.length 0<;>rfl;intro i hi;(have hlt:(i:Int)<(w.Epochs.length:Int):=by omega);have t1:=Al (qf hw hi) (Nat.le_trans (vi hi) hl);(have g1:w.Epochs.getD i ⟨0,[]⟩=w.Epochs[i]:=by simp[hi]);have n1:=iE (hw.num _ (List.getElem_mem hi));(have w1:IntKind.i64.wrap ((i:Int)+1)=((i+1:Nat):Int):=by rw[wrap64 (by omega)];rfl);(have em:((w.Epochs[i].Tags.length:Int)==0)=w.Epochs[i].Tags.isEmpty:=by cases w.Epochs[i].Tags<;>simp;omega);simp only[hlt,decide_true,cond_true,cy hi,Option.bind_some,t1,w1,okW,epN,epT,g1,em];(have hprev:(bif decide ((i:Int)>0) then(idx w.Epochs (IntKind.wrap .i64 ((i:Int) - 1))).bind λx235=>some (decide (w.Epochs[i].Number≤x235.Number)) else some false)=some (decide (0<i)&&decide (w.Epochs[i].Number≤(w.Epochs.getD (i - 1) ⟨0,[]⟩).Number)):=by by_cases h0:0<i;(have e1:(i:Int) - 1=((i - 1:Nat):Int):=by omega);(have h5:((i:Int)>0):=by omega);(have hi1:i - 1<w.Epochs.length:=by omega);rw[wrap64 (by omega),e1,cy hi1];simp[h5,h0,hi1];(have h5:¬((i:Int)>0):=by omega);simp[h5,h0]);rw[hprev];(cases hneg:decide (w.Epochs[i].Number<0) with|true=>simp|false=>have hneg':=of_decide_eq_false hneg;simp only[cond_false,gw,Option.bind_some];rw[wrap64 (by omega)];generalize (decide (w.Epochs[i].Number≤w.Newest)&&decide (w.Newest - w.Epochs[i].Number<s))=b1;generalize (decide (0<i)&&decide (w.Epochs[i].Number≤(w.Epochs.getD (i - 1) ⟨0,[]⟩).Number))=b2;generalize w.Epochs[i].Tags.isEmpty=b3;generalize upB w.Epochs[i].Tags (w.Epochs[i].Tags.length - 1)=b4;cases b1<;>cases b2<;>cases b3<;>cases b4<;>rfl);simp;rfl
theorem Am {ys:List (List Int)} (hr:Rises ys) (hm:∀t,t∈ys↔t∈bZ w):ys.length=(ke w).length:=by (have h1:ys.Nodup:=hr.imp λ{a b} h e=>by subst e;rw[iz] at h;cases h);have h2:(ke w).Nodup:=pW List.nodup_nil;exact((List.perm_ext_iff_of_nodup h1 h2).2 λt=>by rw[hm,ke,sM];simp).length_eq
theorem Bt {ts:List (List Int)} (ht:Tags ts) (hl:ts.length≤1048576) (h0:ts≠[]):
   Loop.run (S := Int) (R := (Unit ⊕ Int)) (λx916 =>
    bif decide (x916<(ts.length:Int)) then
     (idx ts (IntKind.wrap .i64 (x916 - 1))).bind λx928=>
     (idx ts x916).bind λx930=>
     (dW x928 x930).bind λy932=>
     bif !y932 then
      some (.done (.inr 2))
     else
      some (.next (IntKind.wrap .i64 (x916+1)))
    else
     some (.done (.inl ()))) 1=some (bif vp ts then .inl () else .inr 2):=by
 have hpos:0<ts.length:=List.length_pos_iff.2 h0
 rw [vl (st := λi => ((i + 1 : Nat) : Int)) (n := ts.length - 1) (p := λj => ltL (ts.getD j []) (ts.getD (j + 1) [])) (good := (.inl () : Unit ⊕ Int)) (bad := .inr 2)]
 · rfl
 · intro i hi
   have hi1:i+1<ts.length:=by omega
   have hi0:i<ts.length:=by omega
   have hlt:((i+1:Nat):Int)<(ts.length:Int):=by omega
   have e1:IntKind.wrap .i64 (((i+1:Nat):Int) - 1)=(i:Int):=by rw[wrap64 (by omega)];omega
   have e2:IntKind.wrap .i64 (((i+1:Nat):Int)+1)=((i+1+1:Nat):Int):=by rw[wrap64 (by omega)];omega
   have t1:=(ht ts[i] (List.getElem_mem hi0)).1
   have t2:=(ht ts[i+1] (List.getElem_mem hi1)).1
   have g1:ts.getD i []=ts[i]:=by simp[hi0]
   have g2:ts.getD (i+1) []=ts[i+1]:=by simp[hi1]
   simp only[hlt,decide_true,cond_true,e1,e2,cy hi0,cy hi1,Option.bind_some,ua t1 t2,g1,g2]
   cases ltL ts[i] ts[i+1]<;>rfl
 · have:¬(((ts.length - 1+1:Nat):Int)<(ts.length:Int)):=by omega
   simp only[this,decide_false,cond_false]
 · rfl
theorem An (hw:dp w) {s r:Int}:dL w s r=some (bif c1 s r&&c2 w r&&c3 w&&jS (okR w s) w.Epochs.length 0 then 0 else 2):=by have hl:=hw.len;have he:=hw.eps;have htags:Tags (bZ w):=hw.tag;obtain⟨ys,y1,y2,y3,y4⟩:=C9 63 (bZ w) htags hl (Nat.le_trans hl (by decide));have hyl:=Am y2 y3;unfold dL c1 c2;cases h1:((((decide (s<1))||(decide (s>8)))||(decide (r<0)))||(decide (r>4096))) with|true=>simp|false=>cases h2:((decide (w.Newest<0))||(decide (w.Newest>4611686018427387904))) with|true=>simp only[Bool.or_assoc,Bool.false_or] at h2⊢;simp[h2]|false=>simp only[Bool.or_eq_false_iff] at h2;simp only[h2.1,h2.2,Bool.or_false,cond_false,xl hw,Option.bind_some,Bool.not_false,Bool.true_and];cases h3:decide ((lenOf w:Int)>r) with|true=>simp|false=>simp only[cond_false,Option.bind_some,Bool.not_false,Bool.true_and];simp only[Bool.or_eq_false_iff,decide_eq_false_iff_not] at h1 h2 h3;rw [vl (st := λi => (i : Int)) (n := w.Epochs.length) (p := okR w s) (good := (.inl () : Unit ⊕ Int)) (bad := .inr 2)];(cases jS (okR w s) w.Epochs.length 0 with|false=>simp|true=>simp only[cond_true,Option.bind_some,C7 hw,y1,hyl,xl hw,c3,bne,Bool.and_true];cases ((ke w).length:Int)==(lenOf w:Int)<;>rfl);intro i hi;(have hlt:(i:Int)<(w.Epochs.length:Int):=by omega);(have g1:w.Epochs.getD i ⟨0,[]⟩=w.Epochs[i]:=by simp[hi]);have n1:=iE (hw.num _ (List.getElem_mem hi));(have w1:IntKind.i64.wrap ((i:Int)+1)=((i+1:Nat):Int):=by rw[wrap64 (by omega)];rfl);(have em:((w.Epochs[i].Tags.length:Int)==0)=w.Epochs[i].Tags.isEmpty:=by cases w.Epochs[i].Tags<;>simp;omega);(have hprev:(bif decide ((i:Int)>0) then(idx w.Epochs (IntKind.wrap .i64 ((i:Int) - 1))).bind λx894=>some (decide (x894.Number≥w.Epochs[i].Number)) else some false)=some (decide (0<i)&&decide (w.Epochs[i].Number≤(w.Epochs.getD (i - 1) ⟨0,[]⟩).Number)):=by by_cases h0:0<i;(have e1:(i:Int) - 1=((i - 1:Nat):Int):=by omega);(have h5:((i:Int)>0):=by omega);(have hi1:i - 1<w.Epochs.length:=by omega);rw[wrap64 (by omega),e1,cy hi1];simp[h5,h0,hi1];(have h5:¬((i:Int)>0):=by omega);simp[h5,h0]);simp only[hlt,decide_true,cond_true,cy hi,Option.bind_some,w1,okR,epN,epT,g1,em,hprev];rw[wrap64 (by omega)];(have k1:decide (w.Epochs[i].Number>w.Newest)= !(decide (w.Epochs[i].Number≤w.Newest)):=by by_cases h:w.Epochs[i].Number≤w.Newest;simp[h];simp[h];omega);(have k2:decide (w.Epochs[i].Number≤w.Newest - s)= !(decide (w.Newest - w.Epochs[i].Number<s)):=by by_cases h:w.Newest - w.Epochs[i].Number<s;simp[h];omega;simp[h];omega);rw[k1,k2];(cases hem:w.Epochs[i].Tags.isEmpty with|true=>simp only[Bool.or_true,cond_true,Option.bind_some,Bool.not_true,Bool.and_false,Bool.false_and,cond_false]|false=>(have hne:w.Epochs[i].Tags≠[]:=λh=>by rw[h] at hem;cases hem);rw[Bt (qf hw hi) (Nat.le_trans (vi hi) hl) hne];generalize decide (w.Epochs[i].Number<0)=b0;generalize decide (w.Epochs[i].Number≤w.Newest)=b1;generalize decide (w.Newest - w.Epochs[i].Number<s)=b2;generalize (decide (0<i)&&decide (w.Epochs[i].Number≤(w.Epochs.getD (i - 1) ⟨0,[]⟩).Number))=b3;generalize vp w.Epochs[i].Tags=b4;cases b0<;>cases b1<;>cases b2<;>cases b3<;>cases b4<;>rfl);simp;rfl
theorem B4 {ts:List (List Int)}:∀{k:Nat},upB ts k=true↔∀i,i<k→ltL (ts.getD (i+1) []) (ts.getD i [])=false|0=>by simp[upB]|k+1=>by rw[upB,Bool.and_eq_true,B4,Bool.not_eq_true'];constructor;rintro⟨h1,h2⟩ i hi;by_cases h:i=k;subst h;exact h2;exact h1 i (by omega);intro h;exact⟨λi hi=>h i (by omega),h k (by omega)⟩
theorem yu {ts:List (List Int)} (ht:Tags ts) (hn:ts.Nodup):upB ts (ts.length - 1)=vp ts:=by (have key:∀i,i+1<ts.length→(ltL (ts.getD (i+1) []) (ts.getD i [])=false↔ltL (ts.getD i []) (ts.getD (i+1) [])=true):=by intro i hi;(have g1:ts.getD i []=ts[i]:=by simp[show i<ts.length by omega]);(have g2:ts.getD (i+1) []=ts[i+1]:=by simp[hi]);rw[g1,g2];(have hne:ts[i]≠ts[i+1]:=λe=>by have:=(List.getElem_inj (h₀:=show i<ts.length by omega) (h₁:=hi) hn).1 e;omega);have l1:=(ht ts[i] (List.getElem_mem _)).1;have l2:=(ht ts[i+1] (List.getElem_mem _)).1;constructor;intro h;exact(nM (by rw[l1,l2]) hne).resolve_right (by rw[h];simp);intro h;cases h2:ltL ts[i+1] ts[i] with|false=>rfl|true=>have:=j8 h h2;rw[iz] at this;cases this);rw[Bool.eq_iff_iff,B4,vp,jT];constructor;intro h j _ hj;exact(key j (by omega)).1 (h j (by omega));intro h i hi;exact(key i (by omega)).2 (h i (by omega) (by omega))
theorem Ao (hw:dp w) {s r:Int}:fM w s r=dL w s r:=by rw[lT hw,An hw];cases h3:c3 w with|false=>simp|true=>(have hfull:(bZ w).Nodup:=by (have h4:(ke w).length=lenOf w:=by have:=h3;simp only[c3,beq_iff_eq] at this;omega);exact(wv (l:=bZ w) (ks:=[]) (by simpa[ke,lenOf] using h4)).1);(have hok:∀i,i<w.Epochs.length→okW w s i=okR w s i:=by intro i hi;(have g1:w.Epochs.getD i ⟨0,[]⟩=w.Epochs[i]:=by simp[hi]);(have hn:(epT w i).Nodup:=by (have h5:(w.Epochs[i].Tags).Sublist (bZ w):=by rw[nY w i,lS hi,List.flatMap_cons];exact(List.sublist_append_left _ _).trans (List.sublist_append_right _ _));simp only[epT,g1];exact hfull.sublist h5);(have ht:Tags (epT w i):=by simp only[epT,g1];exact qf hw hi);rw[okW,okR,yu ht hn]);(have:jS (okW w s) w.Epochs.length 0=jS (okR w s) w.Epochs.length 0:=by rw[Bool.eq_iff_iff,jT,jT];exact⟨λh j h1 h2=>(hok j (by omega))▸h j h1 h2,λh j h1 h2=>(hok j (by omega))▸h j h1 h2⟩);rw[this]
end
end Go.Proofs.YtobbmodjdkcdcaaGreatDoor
namespace Go.Proofs.YtobbmodjdkcdcaaGreatDoor
open Go Go.Sim
variable [Fu]
theorem Fc {x:Int} (h1:x< -9223372036854775808) (h2: -9223372036854785808≤x):IntKind.i64.wrap x=x+18446744073709551616:=by simp[IntKind.wrap,IntKind.bits,IntKind.signed];omega
theorem Fd {x:Int} (h1:9223372036854775807<x) (h2:x≤9223372036854785807):IntKind.i64.wrap x=x - 18446744073709551616:=by simp[IntKind.wrap,IntKind.bits,IntKind.signed];omega
theorem vq {a b d:Int} (ha:gInt .i64 a) (hb:gInt .i64 b) (hd: -2000≤d∧d≤2000):fO a b d=some (decide (a>b+d)):=by have ha:=iE ha;have hb:=iE hb;unfold fO;by_cases h1:b+d< -9223372036854775808;rw[Fc h1 (by omega)];(have e1:decide (d<0)=true:=by simp;omega);(have e2:decide (b+d+18446744073709551616>b)=true:=by simp;omega);(have e3:decide (a>b+d)=true:=by simp;omega);simp[e1,e2,e3];by_cases h2:9223372036854775807<b+d;rw[Fd h2 (by omega)];(have e1:decide (d<0)=false:=by simp;omega);(have e2:decide (d>0)=true:=by simp;omega);(have e3:decide (b+d - 18446744073709551616<b)=true:=by simp;omega);(have e4:decide (a>b+d)=false:=by simp;omega);rw[e1,e2,e3,e4];rfl;rw[wrap64 (by omega)];(have e1:(decide (d<0)&&decide (b+d>b))=false:=by cases h:decide (d<0)<;>simp at h⊢;omega);(have e2:(decide (d>0)&&decide (b+d<b))=false:=by cases h:decide (d>0)<;>simp at h⊢;omega);rw[e1,e2];rfl
def keep (m s:Int) (e:aj):Bool:=decide (e.Number>m - s)
def fW (w:ae) (a s:Int):ae×Int:=bif decide (s<1)||decide (s>8)||decide (a<0)||decide (a>4611686018427387904) then(⟨0,[]⟩,2) else bif decide (w.Newest≥a+s)||decide (w.Newest<a - 1024) then(⟨0,[]⟩,161) else(⟨max w.Newest a,w.Epochs.filter (keep (max w.Newest a) s)⟩,0)
section
variable {w:ae}
theorem Ea (m s:Int) (i:Nat):((w.Epochs.take i).filter (keep m s)).length≤i:=Nat.le_trans (List.length_filter_le _ _) (by simp;omega)
theorem Ap {ts:List (List Int)} (h:ts.length≤1048576):gN ts=some ts:=by simp[gN,aR (show([]:List (List Int)).length+ts.length≤room by simp[room];omega)]
theorem py (hw:dp w) {a s:Int} (ha:gInt .i64 a):iG w a s=some (fW w a s):=by have hl:=hw.len;have he:=hw.eps;have hn:=iE hw.newest;unfold iG fW;cases hc:(decide (s<1)||decide (s>8)||decide (a<0)||decide (a>4611686018427387904)) with|true=>rfl|false=>simp only[Bool.or_eq_false_iff,decide_eq_false_iff_not] at hc;obtain⟨⟨⟨c1,c2⟩,c3⟩,c4⟩:=hc;simp only[cond_false];rw[wrap64 (x:=0 - s) (by omega),vq ha hw.newest (by omega),Option.bind_some];(have hmax:gInt .i64 (max w.Newest a):=by show -9223372036854775808≤max w.Newest a∧max w.Newest a≤9223372036854775807;have:=iE ha;omega);cases h1:decide (a>w.Newest+(0 - s)) with|false=>(have:(decide (w.Newest≥a+s)||decide (w.Newest<a - 1024))=true:=by simp only[decide_eq_false_iff_not] at h1;simp;omega);rw[this];rfl|true=>simp only[decide_eq_true_eq] at h1;simp only[Bool.not_true,cond_false];rw[vq ha hw.newest (by omega),Option.bind_some,Option.bind_some];(have e1:(decide (w.Newest≥a+s)||decide (w.Newest<a - 1024))=decide (a>w.Newest+1024):=by (have:decide (w.Newest≥a+s)=false:=by simp;omega);rw[this,Bool.false_or];congr 1;exact propext ⟨λh=>by omega,λh=>by omega⟩);rw[e1];cases h2:decide (a>w.Newest+1024) with|true=>rfl|false=>simp only[cond_false];rw[Loop.run_eq0 (st:=λi=>((i:Int),(w.Epochs.take i).filter (keep (max w.Newest a) s))) (res:=λ_=>(⟨max w.Newest a,w.Epochs.filter (keep (max w.Newest a) s)⟩:ae)) (n:=w.Epochs.length)];rfl;intro i hi;left;(have h1:(i:Int)<(w.Epochs.length:Int):=by omega);have hf:=Ea (w:=w) (max w.Newest a) s i;have hep:=vi hi;refine⟨?_,rfl⟩;simp only[h1,decide_true,cond_true,cy hi,Option.bind_some];rw[vq (hw.num _ (List.getElem_mem hi)) hmax (by omega),Option.bind_some,wrap64 (by omega)];(have hk:decide (w.Epochs[i].Number>max w.Newest a+(0 - s))=keep (max w.Newest a) s w.Epochs[i]:=by unfold keep;congr 1;exact propext ⟨λh=>by omega,λh=>by omega⟩);rw[hk,List.take_succ_eq_append_getElem hi,List.filter_append];(cases hkk:keep (max w.Newest a) s w.Epochs[i] with|true=>rw[Ap (by omega)];simp only[cond_true,Option.bind_some];rw[aR (by simp[room];omega)];simp[hkk]|false=>simp[hkk]);simp;simp
end
end Go.Proofs.YtobbmodjdkcdcaaGreatDoor
namespace Go.Proofs.YtobbmodjdkcdcaaGreatDoor
open Go Go.Sim
variable [Fu]
section
variable {w:ae}
end
end Go.Proofs.YtobbmodjdkcdcaaGreatDoor
namespace Go.Proofs.YtobbmodjdkcdcaaGreatDoor
open Go Go.Sim
variable [Fu]
def msort (ts:List (List Int)):List (List Int):=ts.mergeSort λx y=> !ltL y x
theorem ik (ts:List (List Int)):(msort ts).Perm ts:=List.mergeSort_perm _ _
theorem mP {ts:List (List Int)} (ht:Tags ts) (hn:ts.Nodup):Rises (msort ts):=by obtain⟨d,hd⟩:=B0 ts (λx hx=>(ht x hx).1) (λx hx=>(ht x hx).2);(have hs:(d.mergeSort λx y=> !ltOf cfT y x).Pairwise λa b=>(!ltOf cfT b a)=true:=by refine List.pairwise_mergeSort (λa b c h1 h2=>?_) (λa b=>?_) d;simp only[Bool.not_eq_true',Bool.not_eq_eq_eq_not,Bool.not_true] at*;exact swoT.ntrans _ _ _ h2 h1;cases h1:ltOf cfT b a with|false=>simp|true=>cases h2:ltOf cfT a b with|false=>simp|true=>have:=swoT.trans _ _ _ h1 h2;rw[swoT.irrefl] at this;cases this);(have hnd:(d.mergeSort λx y=> !ltOf cfT y x).Nodup:=by (have h2:d.Nodup:=by rw[←hd] at hn;exact(List.pairwise_map.1 hn).imp λh e=>h (by rw[e]));exact(List.mergeSort_perm d _).nodup_iff.2 h2);unfold msort Rises;rw[←hd,←qt,List.pairwise_map];refine(hs.and hnd).imp λ{a b} ⟨h1,h2⟩=>?_;rw[←qd];cases h3:ltOf cfT a b with|true=>rfl|false=>simp only[Bool.not_eq_true',Bool.not_eq_eq_eq_not,Bool.not_true] at h1;exact absurd (FC a b h3 h1) h2
theorem oc:∀{a b:List (List Int)},Rises a→Rises b→(∀t,t∈a↔t∈b)→a=b|[],[],_,_,_=>rfl|[],y::b,_,_,h=>by have:=(h y).2 (by simp);simp at this|x::a,[],_,_,h=>by have:=(h x).1 (by simp);simp at this|x::a,y::b,ha,hb,h=>by have ha':=List.pairwise_cons.1 ha;have hb':=List.pairwise_cons.1 hb;(have hxy:x=y:=by have h1:=(h x).1 (by simp);have h2:=(h y).2 (by simp);rcases List.mem_cons.1 h1 with h1|h1;exact h1;rcases List.mem_cons.1 h2 with h2|h2;exact h2.symm;have:=j8 (hb'.1 x h1) (ha'.1 y h2);rw[iz] at this;cases this);subst hxy;congr 1;refine oc ha'.2 hb'.2 λt=>⟨λht=>?_,λht=>?_⟩;rcases List.mem_cons.1 ((h t).1 (by simp[ht])) with rfl|h1;have:=ha'.1 t ht;rw[iz] at this;cases this;exact h1;rcases List.mem_cons.1 ((h t).2 (by simp[ht])) with rfl|h1;have:=hb'.1 t ht;rw[iz] at this;cases this;exact h1
theorem Aq {a:List (List Int)} (h:Rises a):a.Nodup:=h.imp λ{x y} h e=>by subst e;rw[iz] at h;cases h
theorem Eb {ts:List (List Int)} (ht:Tags ts) (hl:ts.length≤4000000):vf ts=some (msort ts):=by unfold vf;rw[if_pos ⟨λx hx=>(ht x hx).2,by omega⟩];rfl
theorem Bu {ts:List (List Int)} (ht:Tags ts) (h:Rises ts):msort ts=ts:=oc (mP ht (Aq h)) h λt=>(ik ts).mem_iff
def frAt (tags:List (List Int)):Nat→List (List Int×Int)|0=>[]|i+1=>match tags[i]? with|some t=>mset t (i:Int) (frAt tags i)|none=>frAt tags i
theorem xn {tags:List (List Int)}:∀i,i≤tags.length→(frAt tags i).map (·.1)=(tags.take i).foldl addk []|0,_=>by simp[frAt]|i+1,h=>by have hi:i<tags.length:=h;(have:tags[i]? =some tags[i]:=by simp[hi]);rw[frAt,this,List.take_succ_eq_append_getElem hi,List.foldl_append,←xn i (by omega)];simp[sN]
theorem xo {x:List Int}:∀{ps:List (List Int×Int)},(ps.map (·.1)).Nodup→(mdel x ps).map (·.1)=(ps.map (·.1)).filter (λy=> !(x==y))|[],_=>rfl|p::ps,hn=>by have hn':=List.nodup_cons.1 hn;by_cases h:x=p.1;subst h;(have hf:(ps.map (·.1)).filter (λy=> !(p.1==y))=ps.map (·.1):=List.filter_eq_self.2 λy hy=>by have:p.1≠y:=λe=>hn'.1 (by show p.1∈_;rw[e];exact hy);simpa using this);simp[mdel,hf];(have hne:(x==p.1)=false:=by simpa using h);have ih:=xo (x:=x) hn'.2;simp[mdel,hne,ih]
theorem xp:∀{qs ps:List (List Int×Int)},(ps.map (·.1)).Nodup→(qs.foldl (λs q=>mdel q.1 s) ps).map (·.1)=(ps.map (·.1)).filter λy=>decide (y∉qs.map (·.1))|[],ps,_=>by simp only[List.foldl_nil];exact(List.filter_eq_self.2 λy _=>by simp).symm|q::qs,ps,hn=>by have h1:=xo (x:=q.1) hn;(have hn2:((mdel q.1 ps).map (·.1)).Nodup:=by rw[h1];exact hn.filter _);rw[List.foldl_cons,xp hn2,h1,List.filter_filter];refine List.filter_congr λy _=>?_;by_cases h:q.1=y;subst h;simp;have h':¬y=q.1:=λe=>h e.symm;(have h2:(q.1==y)=false:=by simpa using h);simp only[List.map_cons,List.mem_cons,h',false_or,h2,Bool.not_false,Bool.and_true]
theorem td {α β:Type} {f:β→α→β}:∀{l:List α} {s:β},l.foldlM (λs q=>some (f s q)) s=some (l.foldl f s)|[],s=>rfl|a::l,s=>by rw[List.foldlM_cons,List.foldl_cons];exact td
def dU (ep:Int) (ad:List (List Int)) (s:List aj×Bool) (e:aj):List aj×Bool:=bif s.2 then(s.1++[e],true) else bif decide (e.Number≥ep) then bif decide (e.Number>ep) then(s.1++[⟨ep,ad⟩,e],true) else(s.1++[{e with Tags:=ad++e.Tags}],true) else(s.1++[e],false)
def insI (es:List aj) (ep:Int) (ad:List (List Int)):List aj×Bool:=es.foldl (dU ep ad) ([],(ad.length:Int)==0)
def putI (es:List aj) (ep:Int) (ad:List (List Int)):List aj:=bif (insI es ep ad).2 then(insI es ep ad).1 else(insI es ep ad).1++[⟨ep,ad⟩]
theorem Da {ep:Int} {ad:List (List Int)} {s:List aj×Bool} {e:aj}:(dU ep ad s e).1.length≤s.1.length+2:=by unfold dU;cases s.2<;>cases decide (e.Number≥ep)<;>cases decide (e.Number>ep)<;>simp
theorem sD {ep:Int} {ad:List (List Int)}:∀{es:List aj} {s:List aj×Bool},(es.foldl (dU ep ad) s).1.length≤s.1.length+2*es.length|[],s=>by simp|e::es,s=>by have h1:=Da (ep:=ep) (ad:=ad) (s:=s) (e:=e);have h2:=sD (ep:=ep) (ad:=ad) (es:=es) (s:=dU ep ad s e);rw[List.foldl_cons,List.length_cons];omega
theorem qg {ts:List (List Int)} (h:ts.length≤4000000):bt ts=some ts:=by simp[bt,aR (show([]:List (List Int)).length+ts.length≤room by simp[room];omega)]
def fF (e:aj):aj:={e with Tags:=msort e.Tags}
theorem Db {es:List aj} {n:Int} (hl:es.length≤4000000) (ht:∀e∈es,Tags e.Tags∧e.Tags.length≤4000000):
   Loop.run (S:=((List aj)×Int)) (R:=ae) (λ(x707,x708)=>
     bif decide (x708<(es.length:Int)) then
      (idx x707 x708).bind λx726=>
      (vf x726.Tags).bind λy735=>
      some (.next (List.set x707 (Int.toNat x708) ({x726 with Tags:=y735}:aj),IntKind.wrap .i64 (x708+1)))
     else
      some (.done (⟨n,x707⟩:ae))) (es,0)=some ⟨n,es.map fF⟩:=by
 have hat:∀i,(h:i<es.length)→((es.take i).map fF++es.drop i)[i]? =some es[i]:=λi h=>by
   rw[List.getElem?_append_right (by simp;omega)]
   simp[Nat.min_eq_left (Nat.le_of_lt h),h]
 rw[Loop.run_eq0 (st:=λi=>((es.take i).map fF++es.drop i,(i:Int))) (res:=λ_=>(⟨n,es.map fF⟩:ae)) (n:=es.length)]
 · intro i hi
   left
   have h1:(i:Int)<(es.length:Int):=by omega
   have hlen:((es.take i).map fF++es.drop i).length=es.length:=by simp;omega
   refine⟨?_,rfl⟩
   simp only[h1,decide_true,cond_true]
   rw[cy (show i<((es.take i).map fF++es.drop i).length by omega),Option.bind_some]
   have hg : ((es.take i).map fF ++ es.drop i)[i]'(by omega) = es[i] := by
    have:=hat i hi
    rw[List.getElem?_eq_getElem (by omega)] at this
    exact Option.some.inj this
   rw[hg,Eb (ht _ (List.getElem_mem hi)).1 (ht _ (List.getElem_mem hi)).2,Option.bind_some,wrap64 (by omega)]
   have hset:((es.take i).map fF++es.drop i).set i (fF es[i])=(es.take (i+1)).map fF++es.drop (i+1):=by
    rw[List.set_append_right _ _ (by simp;omega),show i - ((es.take i).map fF).length=0 by simp;omega,List.drop_eq_getElem_cons hi,List.set_cons_zero,List.take_succ_eq_append_getElem hi,List.map_append,List.append_assoc]
    rfl
   have hz:Int.toNat (i:Int)=i:=by simp
   rw[hz]
   have:({es[i] with Tags:=msort es[i].Tags}:aj)=fF es[i]:=rfl
   rw[this,hset]
   simp
 · simp
 · simp
section
variable {w:ae}
theorem Fe {es:List aj} {i:Nat} (hi:i<es.length) {ep:Int} {ad:List (List Int)} {s:List aj×Bool}:(es.take (i+1)).foldl (dU ep ad) s=dU ep ad ((es.take i).foldl (dU ep ad) s) es[i]:=by rw[List.take_succ_eq_append_getElem hi,List.foldl_append];rfl
theorem Ec (hw:dp w) {ep:Int} {ad:List (List Int)} (had:ad.length≤1048576):
   Loop.run (S:=(Int×(List aj)×Bool)) (R:=((List aj)×Bool)) (fun(x226,x228,mode_)=>
       bif mode_ then
        bif decide (x226<(w.Epochs.length:Int)) then
         (idx w.Epochs x226).bind λx467=>
         ((some ()
          :Option Unit)).bind λ_=>
         (bt x467.Tags).bind λy476=>
         (app x228 [(⟨x467.Number,y476⟩:aj)]).bind λz479=>
         some (.next (IntKind.wrap .i64 (x226+1),z479,true))
        else
         some (.done (x228,true))
       else
        bif decide (x226<(w.Epochs.length:Int)) then
         (idx w.Epochs x226).bind λx292=>
         bif decide (x292.Number≥ep) then
          bif decide (x292.Number>ep) then
           (app x228 [(⟨ep,ad⟩:aj)]).bind λz299=>
           (bt x292.Tags).bind λy303=>
           (app z299 [(⟨x292.Number,y303⟩:aj)]).bind λz306=>
           some (.next (IntKind.wrap .i64 (x226+1),z306,true))
          else
           (app ad x292.Tags).bind λz310=>
           (bt (({x292 with Tags:=z310}:aj).Tags)).bind λy313=>
           (app x228 [(⟨({x292 with Tags:=z310}:aj).Number,y313⟩:aj)]).bind λz316=>
           some (.next (IntKind.wrap .i64 (x226+1),z316,true))
         else
          (bt x292.Tags).bind λy320=>
          (app x228 [(⟨x292.Number,y320⟩:aj)]).bind λz323=>
          some (.next (IntKind.wrap .i64 (x226+1),z323,false))
        else
         some (.done (x228,false))) (0,[],(ad.length:Int)==0)=some (insI w.Epochs ep ad):=by
 have hl:=hw.len
 have he:=hw.eps
 rw[Loop.run_eq0 (st:=λi=>((i:Int),(w.Epochs.take i).foldl (dU ep ad) ([],(ad.length:Int)==0))) (res:=λ_=>insI w.Epochs ep ad) (n:=w.Epochs.length)]
 · intro i hi
   left
   have h1:(i:Int)<(w.Epochs.length:Int):=by omega
   have hep:=vi hi
   have hlen:=sD (ep:=ep) (ad:=ad) (es:=w.Epochs.take i) (s:=([],(ad.length:Int)==0))
   simp only[List.length_nil,List.length_take] at hlen
   refine⟨?_,rfl⟩
   simp only[Fe hi]
   generalize (w.Epochs.take i).foldl (dU ep ad) ([],(ad.length:Int)==0)=s at hlen⊢
   obtain⟨acc,m⟩:=s
   simp only at hlen
   have hs:((i:Int)+1)=((i+1:Nat):Int):=by simp
   cases m with
   |true=>
    simp only[h1,decide_true,cond_true,cy hi,Option.bind_some]
    rw[qg (by omega),Option.bind_some,aR (by simp[room];omega),Option.bind_some,wrap64 (by omega),hs]
    rfl
   |false=>
    simp only[h1,decide_true,cond_true,cond_false,cy hi,Option.bind_some]
    unfold dU
    simp only[cond_false]
    cases hge:decide (w.Epochs[i].Number≥ep) with
    |false=>
     simp only[cond_false]
     rw[qg (by omega),Option.bind_some,aR (by simp[room];omega),Option.bind_some,wrap64 (by omega),hs]
    |true=>
     simp only[cond_true]
     cases hgt:decide (w.Epochs[i].Number>ep) with
     |true=>
      simp only[cond_true]
      rw[aR (by simp[room];omega),Option.bind_some,qg (by omega),Option.bind_some,aR (by simp[room];omega),Option.bind_some,wrap64 (by omega),hs]
      simp
     |false=>
      simp only[cond_false]
      rw[aR (by simp[room];omega),Option.bind_some,qg (by simp;omega),Option.bind_some,aR (by simp[room];omega),Option.bind_some,wrap64 (by omega),hs]
 · have h2:¬((w.Epochs.length:Int)<(w.Epochs.length:Int)):=by omega
   simp only[List.take_length,insI]
   generalize w.Epochs.foldl (dU ep ad) ([],(ad.length:Int)==0)=s
   obtain⟨acc,m⟩:=s
   cases m<;>simp
 · simp
end
end Go.Proofs.YtobbmodjdkcdcaaGreatDoor
namespace Go.Proofs.YtobbmodjdkcdcaaGreatDoor
open Go Go.Sim
variable [Fu]
def jr (w:ae) (tags:List (List Int)):List (List Int):=(tags.foldl addk []).filter λy=>decide (y∉bZ w)
def gt (w:ae) (tags:List (List Int)):List (List Int):=msort (jr w tags)
def okB (w:ae):Bool:=c1 8 4096&&c2 w 4096&&c3 w&&jS (okW w 8) w.Epochs.length 0
def addW (w:ae) (ep:Int) (tags:List (List Int)) (r:Int):ae×Int:=bif decide (r<0)||decide (r>4096)|| !okB w then(⟨0,[]⟩,2) else bif decide (ep<0)|| !(decide (ep≤w.Newest)&&decide (w.Newest - ep<8)) then(⟨0,[]⟩,161) else bif decide ((lenOf w:Int)+((gt w tags).length:Int)>r) then(⟨0,[]⟩,160) else(⟨w.Newest,(putI w.Epochs ep (gt w tags)).map fF⟩,0)
theorem rK {w:ae} {tags:List (List Int)}:(jr w tags).Nodup:=(pW List.nodup_nil).filter _
theorem qN {w:ae} {tags:List (List Int)} {t:List Int}:t∈jr w tags↔t∈tags∧t∉bZ w:=by unfold jr;rw[List.mem_filter,sM];simp
theorem Ar {w:ae} {tags:List (List Int)} (ht:Tags tags):Tags (jr w tags):=λt h=>ht t (qN.1 h).1
theorem tf {a b:List (List Int)} (ht:Tags a) (hn:a.Nodup) (hp:a.Perm b):msort a=msort b:=oc (mP ht hn) (mP (λt h=>ht t (hp.mem_iff.2 h)) (hp.nodup_iff.1 hn)) λt=>by rw[(ik a).mem_iff,(ik b).mem_iff];exact hp.mem_iff
theorem Bv {ep:Int} {a b:List (List Int)} {s s':List aj×Bool} {e:aj} (h1:s.1.map fF=s'.1.map fF) (h2:s.2=s'.2) (ha:msort a=msort b) (hc:msort (a++e.Tags)=msort (b++e.Tags)): (dU ep a s e).1.map fF=(dU ep b s' e).1.map fF∧(dU ep a s e).2=(dU ep b s' e).2:=by obtain⟨x,m⟩:=s;obtain⟨y,m'⟩:=s';simp only at h1 h2;subst h2;unfold dU;cases m<;>cases decide (e.Number≥ep)<;>cases decide (e.Number>ep)<;>simp[h1,fF,ha,hc]
theorem vr {ep:Int} {a b:List (List Int)} (ha:msort a=msort b):∀{es:List aj} {s s':List aj×Bool},(∀e∈es,msort (a++e.Tags)=msort (b++e.Tags))→s.1.map fF=s'.1.map fF→s.2=s'.2→ (es.foldl (dU ep a) s).1.map fF=(es.foldl (dU ep b) s').1.map fF∧(es.foldl (dU ep a) s).2=(es.foldl (dU ep b) s').2|[],s,s',_,h1,h2=>⟨h1,h2⟩|e::es,s,s',hc,h1,h2=>by obtain⟨h3,h4⟩:=Bv (ep:=ep) h1 h2 ha (hc e (by simp));exact vr (s:=dU ep a s e) (s':=dU ep b s' e) ha (λx hx=>hc x (by simp[hx])) h3 h4
theorem Dc {es:List aj} {ep:Int} {a b:List (List Int)} (hl:a.length=b.length) (ha:msort a=msort b) (hc:∀e∈es,msort (a++e.Tags)=msort (b++e.Tags)):(putI es ep a).map fF=(putI es ep b).map fF:=by obtain⟨h1,h2⟩:=vr (ep:=ep) ha (s:=([],(a.length:Int)==0)) (s':=([],(b.length:Int)==0)) hc rfl (by simp[hl]);unfold putI insI;rw[h2];cases (es.foldl (dU ep b) ([],(b.length:Int)==0)).2<;>simp[h1,fF,ha]
theorem Bw {tags:List (List Int)} (hl:tags.length≤1048576):
   Loop.run (S:=(Int×(List ((List Int)×Int)))) (R:=(List ((List Int)×Int))) (λ(x901,x902)=>
    bif decide (x901<(tags.length:Int)) then
     (idx tags x901).bind λx912=>
     some (.next (IntKind.wrap .i64 (x901+1),mset x912 x901 x902))
    else
     some (.done x902)) (0,[])=some (frAt tags tags.length):=by
 rw[Loop.run_eq0 (st:=λi=>((i:Int),frAt tags i)) (res:=λ_=>frAt tags tags.length) (n:=tags.length)]
 · intro i hi
   left
   have h1:(i:Int)<(tags.length:Int):=by omega
   have h2:tags[i]? =some tags[i]:=by simp[hi]
   refine⟨?_,rfl⟩
   simp only[h1,decide_true,cond_true,cy hi,Option.bind_some,frAt,h2]
   rw[wrap64 (by omega)];simp
 · simp
 · simp[frAt]
section
variable {w:ae}
theorem vt (h:c3 w=true):(bZ w).Nodup:=by (have h4:(ke w).length=lenOf w:=by have:=h;simp only[c3,beq_iff_eq] at this;omega);exact(wv (l:=bZ w) (ks:=[]) (by simpa[ke,lenOf] using h4)).1
theorem As:∀{qs:List (List Int×Int)} {acc:List (List Int)},acc.length+qs.length≤4000000→ qs.foldlM (λx103 p106=>(app x103 [p106.1]).bind λz885=>some z885) acc=some (acc++qs.map (·.1))|[],acc,_=>by simp|q::qs,acc,h=>by simp only[List.length_cons] at h;rw[List.foldlM_cons,aR (by simp[room];omega)];simp only[Option.bind_some,Option.bind_eq_bind];rw[As (by simp;omega)];simp
theorem Au {es:List aj} {ep:Int} {ad:List (List Int)} (P:aj→Prop) (h1:∀e∈es,P e) (h2:P ⟨ep,ad⟩) (h3:∀e∈es,P {e with Tags:=ad++e.Tags}):∀e∈putI es ep ad,P e:=by (have key:∀(l:List aj),(∀e∈l,e∈es)→∀s:List aj×Bool,(∀e∈s.1,P e)→∀e∈(l.foldl (dU ep ad) s).1,P e:=by intro l;induction l with|nil=>intro _ s hs;exact hs| cons x l ih =>intro hl s hs;rw[List.foldl_cons];refine ih (λe he=>hl e (by simp[he])) _ λe he=>?_;have hx:=hl x (by simp);unfold dU at he;cases h4:s.2<;>cases h5:decide (x.Number≥ep)<;>cases h6:decide (x.Number>ep)<;>simp[h4,h5,h6] at he<;>rcases he with he|he<;>first|exact hs e he|(rw[he];first|exact h1 x hx|exact h3 x hx)|(rcases he with he|he<;>rw[he]<;>first|exact h2|exact h1 _ hx));intro e he;have hfold:=key es (λe h=>h) ([],(ad.length:Int)==0) (by simp);unfold putI insI at he;cases hm:(es.foldl (dU ep ad) ([],(ad.length:Int)==0)).2<;>rw[hm] at he<;>simp only[cond_true,cond_false] at he;rcases List.mem_append.1 he with he|he;exact hfold e he;simp at he;subst he;exact h2;exact hfold e he
theorem Ed {es:List aj} {ep:Int} {ad:List (List Int)}:(putI es ep ad).length≤2*es.length+1:=by have:=sD (ep:=ep) (ad:=ad) (es:=es) (s:=([],(ad.length:Int)==0));unfold putI insI;cases (es.foldl (dU ep ad) ([],(ad.length:Int)==0)).2<;>simp at this⊢<;>omega
end
end Go.Proofs.YtobbmodjdkcdcaaGreatDoor
namespace Go.Proofs.YtobbmodjdkcdcaaGreatDoor
open Go Go.Sim
variable [Fu]
theorem od {α β:Type} {o:Option α} {a:α} {k:α→Option β} {r:Option β} (h:o=some a) (hk:k a=r):o.bind k=r:=by rw[h];exact hk
section
variable {w:ae}
theorem Av (hw:dp w) (hn:(bZ w).Nodup) {ep:Int} {tags ad:List (List Int)} (ht:Tags tags) (hl:tags.length≤1048576) (hp:ad.Perm (jr w tags)): (putI w.Epochs ep ad).map fF=(putI w.Epochs ep (gt w tags)).map fF∧ad.length=(gt w tags).length∧ad.length≤1048576∧∀e∈putI w.Epochs ep ad,Tags e.Tags∧e.Tags.length≤4000000:=by have hF:=(ik (jr w tags));have hp2:ad.Perm (gt w tags):=hp.trans hF.symm;have hK:=Ar (w:=w) ht;have hTad:Tags ad:=λt h=>hK t (hp.mem_iff.1 h);have hNad:ad.Nodup:=hp.nodup_iff.2 rK;(have hlen:(jr w tags).length≤1048576:=by have h1:(jr w tags).length≤(tags.foldl addk []).length:=List.length_filter_le _ _;have h2:=xQ (l:=tags) (ks:=([]:List (List Int)));simp at h2;omega);(have hlad:ad.length≤1048576:=by rw[hp.length_eq];exact hlen);have hwl:=hw.len;(have hNe:∀e∈w.Epochs,(ad++e.Tags).Nodup:=λe he=>by (have hs:e.Tags.Sublist (bZ w):=by obtain⟨j,hj,rfl⟩:=List.getElem_of_mem he;rw[nY w j,lS hj,List.flatMap_cons];exact((List.sublist_append_left _ _).trans (List.sublist_append_right _ _)));refine List.nodup_append.2 ⟨hNad,hn.sublist hs,λa ha b hb e=>?_⟩;subst e;exact(qN.1 (hp.mem_iff.1 ha)).2 (hs.subset hb));(have hTe:∀e∈w.Epochs,Tags e.Tags:=λe he=>by obtain⟨j,hj,rfl⟩:=List.getElem_of_mem he;exact qf hw hj);(have hLe:∀e∈w.Epochs,e.Tags.length≤1048576:=λe he=>by obtain⟨j,hj,rfl⟩:=List.getElem_of_mem he;have:=vi hj;omega);refine⟨Dc hp2.length_eq (tf hTad hNad hp2) λe he=>tf (λt h=>?_) (hNe e he) (hp2.append_right _),hp2.length_eq,hlad,?_⟩;rcases List.mem_append.1 h with h|h;exact hTad t h;exact hTe e he t h;refine Au (λe=>Tags e.Tags∧e.Tags.length≤4000000) (λe he=>⟨hTe e he,by have:=hLe e he;omega⟩) ⟨hTad,by simp only;omega⟩ λe he=>⟨λt h=>?_,by have:=hLe e he;simp;omega⟩;rcases List.mem_append.1 h with h|h;exact hTad t h;exact hTe e he t h
theorem vu (hw:dp w) {ep r:Int} (hep:gInt .i64 ep) {tags:List (List Int)} (ht:Tags tags) (hl:tags.length≤1048576):ku w ep tags r=some (addW w ep tags r):=by have hwl:=hw.len;have hwe:=hw.eps;have hne:=iE hw.newest;have hepr:=iE hep;unfold ku addW;cases hr:(decide (r<0)||decide (r>4096)) with|true=>simp|false=>simp only[cond_false,Bool.false_or];rw[lT hw];have hok:(c1 8 4096&&c2 w 4096&&c3 w&&jS (okW w 8) w.Epochs.length 0)=okB w:=rfl;rw[hok];cases hb:okB w with|false=>simp|true=>have hb':=hb;unfold okB at hb';simp only[Bool.and_eq_true] at hb';obtain⟨⟨⟨_,hc2⟩,hc3⟩,_⟩:=hb';(have hN:0≤w.Newest∧w.Newest≤4611686018427387904:=by unfold c2 at hc2;simp at hc2;omega);have hnd:=vt hc3;simp only[cond_true,Option.bind_some,bne_self_eq_false,cond_false,Bool.not_true];cases h1:decide (ep<0) with|true=>simp|false=>simp only[decide_eq_false_iff_not] at h1;(have hk:gw ep w.Newest 8=some (decide (ep≤w.Newest)&&decide (w.Newest - ep<8)):=by unfold gw;rw[wrap64 (by omega)]);simp only[cond_false,hk,Option.bind_some,Bool.false_or];cases h2:(decide (ep≤w.Newest)&&decide (w.Newest - ep<8)) with|false=>simp|true=>simp only[Bool.not_true,cond_false];rw[Bw hl];obtain⟨m,hm,hmk⟩:=rF hw;rw[hm];simp only[Option.bind_some];refine xM λqs hq=>?_;rw[td (f:=λs (q:List Int×Int)=>mdel q.1 s)];simp only[Option.bind_some];have hfk:=xn (tags:=tags) tags.length (Nat.le_refl _);rw[List.take_length] at hfk;(have hkeys:(qs.foldl (λs q=>mdel q.1 s) (frAt tags tags.length)).map (·.1)=jr w tags:=by rw[xp (by rw[hfk];exact pW List.nodup_nil),hfk];unfold jr;refine List.filter_congr λy _=>?_;(have:y∈qs.map (·.1)↔y∈bZ w:=by rw[(hq.map _).mem_iff,hmk,ke,sM];simp);simp[this]);generalize qs.foldl (λs q=>mdel q.1 s) (frAt tags tags.length)=fm at hkeys;(have hfl:fm.length=(jr w tags).length:=by rw[←hkeys];simp);have hFl:(gt w tags).length=(jr w tags).length:=(ik _).length_eq;obtain⟨_,_,hKl,_⟩:=Av hw hnd (ep:=ep) ht hl (List.Perm.refl (jr w tags));rw[vj hw];simp only[Option.bind_some];rw[wrap64 (by omega),hfl,hFl];cases h3:decide ((lenOf w:Int)+((jr w tags).length:Int)>r) with|true=>rfl|false=>simp only[cond_false];refine xM λps hps=>?_;(have hadp:(ps.map (·.1)).Perm (jr w tags):=by rw[←hkeys];exact hps.map _);obtain⟨t1,t2,t3,t4⟩:=Av hw hnd (ep:=ep) ht hl hadp;have hapl:=As (qs:=ps) (acc:=[]) (by have:=hps.length_eq;simp;omega);rw[List.nil_append] at hapl;rw[hapl];simp only[Option.bind_some];refine od (Ec hw t3) ?_;have hpl:=Ed (es:=w.Epochs) (ep:=ep) (ad:=ps.map (·.1));have hsl:=Db (n:=w.Newest) (by omega) t4;rw[←t1];unfold putI at hsl hpl⊢;generalize hI:insI w.Epochs ep (ps.map (·.1))=s at hsl hpl⊢;obtain⟨acc,mo⟩:=s;cases mo with|true=>simp only[cond_true] at hsl⊢;exact od (od hsl rfl) rfl|false=>simp only[cond_false] at hsl hpl⊢;exact od (od (aR (by simp at hpl;simp[room];omega)) rfl)<|od (od hsl rfl) rfl
end
end Go.Proofs.YtobbmodjdkcdcaaGreatDoor
namespace Go.Proofs.YtobbmodjdkcdcaaGreatDoor
open Go Go.Sim
variable [Fu]
section
variable {w:ae}
end
end Go.Proofs.YtobbmodjdkcdcaaGreatDoor
namespace Go.Proofs.YtobbmodjdkcdcaaGreatDoor
open Go Go.Sim
variable [Fu]
section
variable {H A:List (List Int)}
end
end Go.Proofs.YtobbmodjdkcdcaaGreatDoor
namespace Go.Proofs.YtobbmodjdkcdcaaGreatDoor
open Go Go.Sim
variable [Fu]
theorem Bx {ts:List (List Int)} (h:vp ts=true):Rises ts:=by have h1:=jT.1 h;(have key:∀d i,(hi:i+d+1<ts.length)→ltL (ts.getD i []) (ts.getD (i+d+1) [])=true:=by intro d;induction d with|zero=>intro i hi;exact h1 i (by omega) (by omega)|succ d ih=>intro i hi;exact j8 (ih i (by omega)) (by have:=h1 (i+d+1) (by omega) (by omega);rwa [show i+(d+1)+1=i+d+1+1 by omega]));refine List.pairwise_iff_getElem.2 λi j hi hj hij=>?_;have:=key (j - i - 1) i (by omega);rw[show i+(j - i - 1)+1=j by omega] at this;simpa[hi,hj] using this
section
variable {w:ae}
end
end Go.Proofs.YtobbmodjdkcdcaaGreatDoor
namespace Go.Proofs.YtobbmodjdkcdcaaGreatDoor
open Go Go.Sim
variable [Fu]
theorem vv:dp ⟨0,[]⟩:=⟨⟨by decide,by decide⟩,by simp,by simp[bZ],by simp[lenOf,bZ],by simp⟩
theorem Aw {xs ys:List aj} (h:List.Sublist xs ys):List.Sublist (xs.flatMap (·.Tags)) (ys.flatMap (·.Tags)):=by induction h with|slnil=>exact List.Sublist.refl _|cons a _ ih=>rw[List.flatMap_cons];exact ih.trans (List.sublist_append_right _ _)|cons_cons a _ ih=>rw[List.flatMap_cons,List.flatMap_cons];exact(List.Sublist.refl _).append ih
theorem mg {w:ae} (hw:dp w) {a s:Int} (ha:gInt .i64 a):dp (fW w a s).1:=by unfold fW;cases (decide (s<1)||decide (s>8)||decide (a<0)||decide (a>4611686018427387904)) with|true=>exact vv|false=>cases (decide (w.Newest≥a+s)||decide (w.Newest<a - 1024)) with|true=>exact vv|false=>have h1:=iE hw.newest;have h2:=iE ha;have hs:List.Sublist (w.Epochs.filter (keep (max w.Newest a) s)) w.Epochs:=List.filter_sublist;have ht:List.Sublist ((w.Epochs.filter (keep (max w.Newest a) s)).flatMap (·.Tags)) (bZ w):=Aw hs;exact⟨show -9223372036854775808≤max w.Newest a∧max w.Newest a≤9223372036854775807 by omega,λe he=>hw.num e (hs.subset he),λt h=>hw.tag t (ht.subset h),Nat.le_trans ht.length_le hw.len,Nat.le_trans hs.length_le hw.eps⟩
end Go.Proofs.YtobbmodjdkcdcaaGreatDoor
namespace Go.Proofs.YtobbmodjdkcdcaaGreatDoor
open Go Go.Sim
variable [Fu]
structure VW (w:ae) (s r:Int):Prop where
 new:0≤w.Newest∧w.Newest≤4611686018427387904
 len:(lenOf w:Int)≤r
 nodup:(bZ w).Nodup
 ep:∀e∈w.Epochs,0≤e.Number∧e.Number≤w.Newest∧w.Newest - e.Number<s∧e.Tags≠[]∧Rises e.Tags
 inc:w.Epochs.Pairwise λa b=>a.Number<b.Number
theorem Dd {l ks:List (List Int)} (h:l.Nodup) (h2:∀x∈l,x∉ks):l.foldl addk ks=ks++l:=by induction l generalizing ks with|nil=>simp|cons x l ih=>obtain⟨h3,h4⟩:=List.nodup_cons.1 h;have hx:=h2 x (by simp);(have:addk ks x=ks++[x]:=by simp[addk,hx]);rw[List.foldl_cons,this,ih h4 λy hy hm=>by rcases List.mem_append.1 hm with hm|hm;exact h2 y (by simp[hy]) hm;simp at hm;subst hm;exact h3 hy];simp
theorem Ee {w:ae}:c3 w=true↔(bZ w).Nodup:=by constructor;exact vt;intro h;have:=Dd (ks:=[]) h (by simp);simp[c3,ke,lenOf,this]
theorem mh {α:Type} {xs:List α} {i:Nat} (h:i<xs.length) (d:α):xs.getD i d=xs[i]:=by simp[h]
theorem Ef {ts:List (List Int)} (h:Rises ts):vp ts=true:=by refine jT.2 λj _ hj=>?_;rw[mh (show j<ts.length by omega),mh (show j+1<ts.length by omega)];exact List.pairwise_iff_getElem.1 h j (j+1) (by omega) (by omega) (by omega)
section
variable {w:ae}
theorem pz {e:aj} (he:e∈w.Epochs):e.Tags.Sublist (bZ w):=by obtain⟨i,hi,rfl⟩:=List.getElem_of_mem he;rw[nY w i,lS hi,List.flatMap_cons];exact((List.sublist_append_left _ _).trans (List.sublist_append_right _ _))
theorem sE (hw:dp w) {s r:Int}:(c1 s r&&c2 w r&&c3 w&&jS (okW w s) w.Epochs.length 0)=true↔c1 s r=true∧VW w s r:=by simp only[Bool.and_eq_true];constructor;rintro⟨⟨⟨h1,h2⟩,h3⟩,h4⟩;have hn:=Ee.1 h3;have hk:=λi (hi:i<w.Epochs.length)=>jT.1 h4 i (by omega) (by omega);simp only[c2,Bool.and_eq_true,Bool.not_eq_true',Bool.or_eq_false_iff,decide_eq_false_iff_not] at h2;refine⟨h1,⟨by omega,by omega,hn,λe he=>?_,?_⟩⟩;obtain⟨i,hi,rfl⟩:=List.getElem_of_mem he;have h:=hk i hi;have g:w.Epochs.getD i ⟨0,[]⟩=w.Epochs[i]:=mh hi _;simp only[okW,epN,epT,g,Bool.and_eq_true,Bool.not_eq_true',decide_eq_false_iff_not,decide_eq_true_eq,List.isEmpty_eq_false_iff] at h;obtain⟨⟨⟨⟨a1,a2⟩,a3⟩,a4⟩,a5⟩:=h;rw[yu (qf hw hi) (hn.sublist (pz (List.getElem_mem hi)))] at a5;exact⟨by omega,a2.1,a2.2,a4,Bx a5⟩;(have adj:∀i,(h:i+1<w.Epochs.length)→w.Epochs[i].Number<w.Epochs[i+1].Number:=fun i h=>by have h5:=hk (i+1) h;have g:w.Epochs.getD (i+1) ⟨0,[]⟩=w.Epochs[i+1]:=mh h _;have g2:w.Epochs.getD i ⟨0,[]⟩=w.Epochs[i]:=mh (by omega) _;simp only[okW,epN,epT,Nat.add_sub_cancel,g,g2,Bool.and_eq_true,Bool.not_eq_true',Bool.and_eq_false_iff,decide_eq_false_iff_not,decide_eq_true_eq] at h5;have:=h5.1.1.2;omega);(have far:∀d i,(h:i+d+1<w.Epochs.length)→w.Epochs[i].Number<w.Epochs[i+d+1].Number:=by intro d;induction d with|zero=>intro i h;exact adj i h|succ d ih=>intro i h;have h1:=ih i (by omega);have h2:=adj (i+d+1) (by omega);simp only[show i+(d+1)+1=i+d+1+1 by omega];omega);refine List.pairwise_iff_getElem.2 λi j hi hj hij=>?_;have:=far (j - i - 1) i (by omega);simp only[show i+(j - i - 1)+1=j by omega] at this;exact this;rintro⟨h1,v⟩;have hv1:=v.new;have hv2:=v.len;refine⟨⟨⟨h1,?_⟩,Ee.2 v.nodup⟩,jT.2 λi _ hi=>?_⟩;simp only[c2,Bool.and_eq_true,Bool.not_eq_true',Bool.or_eq_false_iff,decide_eq_false_iff_not];omega;(have hi:i<w.Epochs.length:=by omega);have g:w.Epochs.getD i ⟨0,[]⟩=w.Epochs[i]:=mh hi _;obtain⟨a1,a2,a3,a4,a5⟩:=v.ep _ (List.getElem_mem hi);simp only[okW,epN,epT,g,Bool.and_eq_true,Bool.not_eq_true',decide_eq_false_iff_not,decide_eq_true_eq,List.isEmpty_eq_false_iff];refine⟨⟨⟨⟨by omega,a2,a3⟩,?_⟩,a4⟩,?_⟩;(cases i with|zero=>simp|succ i=>have g2:w.Epochs.getD i ⟨0,[]⟩=w.Epochs[i]:=mh (by omega) _;have:=List.pairwise_iff_getElem.1 v.inc i (i+1) (by omega) hi (by omega);simp only[Nat.add_sub_cancel,g2,Bool.and_eq_false_iff,decide_eq_false_iff_not];omega);rw[yu (qf hw hi) (v.nodup.sublist (pz (List.getElem_mem hi)))];exact Ef a5
theorem De (hw:dp w) {s r:Int}:∃c,dL w s r=some c∧(c=0↔c1 s r=true∧VW w s r):=by rw[←Ao hw,lT hw];refine⟨_,rfl,?_⟩;rw[←sE hw];cases (c1 s r&&c2 w r&&c3 w&&jS (okW w s) w.Epochs.length 0)<;>simp
end
theorem VW.weaken {w:ae} {s r s' r':Int} (h:VW w s r) (hs:s≤s') (hr:r≤r'):VW w s' r':=⟨h.new,by have:=h.len;omega,h.nodup,λe he=>by obtain⟨a,b,c,d⟩:=h.ep e he;exact⟨a,b,by omega,d⟩,h.inc⟩
theorem FM {s r:Int}:c1 s r=true↔1≤s∧s≤8∧0≤r∧r≤4096:=by simp only[c1,Bool.not_eq_true',Bool.or_eq_false_iff,decide_eq_false_iff_not];omega
theorem VW.good {w:ae} {s r:Int} (h:VW w s r) (hr:r≤4096) (ht:Tags (bZ w)):dp w:=by have h1:=h.new;have h2:=h.len;refine⟨show -9223372036854775808≤w.Newest∧w.Newest≤9223372036854775807 by omega,λe he=>?_,ht,by omega,?_⟩;obtain⟨a,b,_⟩:=h.ep e he;show -9223372036854775808≤e.Number∧e.Number≤9223372036854775807;omega;(have:∀es:List aj,(∀e∈es,e.Tags≠[])→es.length≤(es.flatMap (·.Tags)).length:=by intro es;induction es with|nil=>simp|cons e es ih=>intro h;have h1:=ih λx hx=>h x (by simp[hx]);have h2:0<e.Tags.length:=List.length_pos_iff.2 (h e (by simp));simp only[List.flatMap_cons,List.length_append,List.length_cons];omega);have:=this w.Epochs λe he=>(h.ep e he).2.2.2.1;have h3:lenOf w=(w.Epochs.flatMap (·.Tags)).length:=rfl;omega
theorem Ax {w:ae} {a s s' r:Int} (h:VW w s r) (ha:0≤a∧a≤4611686018427387904):VW ⟨max w.Newest a,w.Epochs.filter (keep (max w.Newest a) s')⟩ s' r:=by have h1:=h.new;have hs:List.Sublist (w.Epochs.filter (keep (max w.Newest a) s')) w.Epochs:=List.filter_sublist;have ht:List.Sublist ((w.Epochs.filter (keep (max w.Newest a) s')).flatMap (·.Tags)) (bZ w):=Aw hs;refine⟨by simp only;omega,?_,h.nodup.sublist ht,λe he=>?_,h.inc.sublist hs⟩;have:=h.len;have h2:=ht.length_le;have h3:lenOf w=(bZ w).length:=rfl;have h4:lenOf ⟨max w.Newest a,w.Epochs.filter (keep (max w.Newest a) s')⟩=((w.Epochs.filter (keep (max w.Newest a) s')).flatMap (·.Tags)).length:=rfl;omega;obtain⟨h2,h3⟩:=List.mem_filter.1 he;obtain⟨a1,a2,a3,a4⟩:=h.ep e h2;simp only[keep,decide_eq_true_eq] at h3;exact⟨a1,by simp only;omega,by simp only;omega,a4⟩
theorem Ay {w:ae} {a s:Int} (h:(fW w a s).2=0):(1≤s∧s≤8∧0≤a∧a≤4611686018427387904)∧(w.Newest<a+s∧a - 1024≤w.Newest)∧fW w a s=(⟨max w.Newest a,w.Epochs.filter (keep (max w.Newest a) s)⟩,0):=by unfold fW at h⊢;cases hc:(decide (s<1)||decide (s>8)||decide (a<0)||decide (a>4611686018427387904)) with|true=>rw[hc] at h;simp at h|false=>rw[hc] at h;cases hd:(decide (w.Newest≥a+s)||decide (w.Newest<a - 1024)) with|true=>rw[hd] at h;simp at h|false=>simp only[Bool.or_eq_false_iff,decide_eq_false_iff_not] at hc hd;exact⟨by omega,by omega,rfl⟩
def ins (ep:Int) (ad:List (List Int)):List aj→List aj|[]=>[⟨ep,ad⟩]|e::es=>if e.Number<ep then e::ins ep ad es else if e.Number>ep then⟨ep,ad⟩::e::es else{e with Tags:=ad++e.Tags}::es
theorem qh {ep:Int} {ad:List (List Int)}:∀{es acc:List aj},es.foldl (dU ep ad) (acc,true)=(acc++es,true)|[],acc=>by simp|e::es,acc=>by rw[List.foldl_cons];simp[dU,qh (es:=es)]
theorem vw {ep:Int} {ad:List (List Int)}:∀{es acc:List aj},(bif (es.foldl (dU ep ad) (acc,false)).2 then(es.foldl (dU ep ad) (acc,false)).1 else(es.foldl (dU ep ad) (acc,false)).1++[⟨ep,ad⟩])=acc++ins ep ad es|[],acc=>by simp[ins]|e::es,acc=>by rw[List.foldl_cons];by_cases h1:e.Number<ep;(have h2:decide (e.Number≥ep)=false:=by simp;omega);(have:dU ep ad (acc,false) e=(acc++[e],false):=by simp[dU,h2]);rw[this,vw (es:=es),ins,if_pos h1];simp;(have h2:decide (e.Number≥ep)=true:=by simp;omega);by_cases h3:e.Number>ep;(have h4:decide (e.Number>ep)=true:=by simpa using h3);(have:dU ep ad (acc,false) e=(acc++[⟨ep,ad⟩,e],true):=by simp[dU,h2,h4]);rw[this,qh,ins,if_neg h1,if_pos h3];simp;(have h4:decide (e.Number>ep)=false:=by simpa using h3);(have:dU ep ad (acc,false) e=(acc++[{e with Tags:=ad++e.Tags}],true):=by simp[dU,h2,h4]);rw[this,qh,ins,if_neg h1,if_neg h3];simp
theorem uc {es:List aj} {ep:Int} {ad:List (List Int)}:putI es ep ad=if ad=[] then es else ins ep ad es:=by unfold putI insI;by_cases h:ad=[];subst h;simp[qh];(have:((ad.length:Int)==0)=false:=by have:=List.length_pos_iff.2 h;simp;omega);rw[this,vw,if_neg h];simp
theorem yv {ep:Int} {ad:List (List Int)}:∀{es:List aj} {e:aj},e∈ins ep ad es→e∈es∨e=⟨ep,ad⟩∨∃e0∈es,e0.Number=ep∧e={e0 with Tags:=ad++e0.Tags}|[],e,h=>by simp[ins] at h;exact .inr (.inl h)|x::es,e,h=>by rw[ins] at h;split at h;rcases List.mem_cons.1 h with rfl|h;exact .inl (by simp);rcases yv h with h|h|⟨e0,h,k⟩;exact .inl (by simp[h]);exact .inr (.inl h);exact .inr (.inr ⟨e0,by simp[h],k⟩);split at h;rcases List.mem_cons.1 h with rfl|h;exact .inr (.inl rfl);exact .inl h;rcases List.mem_cons.1 h with rfl|h;exact .inr (.inr ⟨x,by simp,by omega,rfl⟩);exact .inl (by simp[h])
theorem Eg {ep:Int} {ad:List (List Int)} {es:List aj} {e:aj} (h:e∈ins ep ad es):e.Number=ep∨∃x∈es,e.Number=x.Number:=by rcases yv h with h|rfl|⟨e0,h,k,rfl⟩;exact .inr ⟨e,h,rfl⟩;exact .inl rfl;exact .inl k
theorem B5 {ep:Int} {ad:List (List Int)}:∀{es:List aj},es.Pairwise (λa b=>a.Number<b.Number)→(ins ep ad es).Pairwise (λa b=>a.Number<b.Number)|[],_=>by simp[ins]|x::es,h=>by obtain⟨h1,h2⟩:=List.pairwise_cons.1 h;rw[ins];split;rename_i hx;refine List.pairwise_cons.2 ⟨λy hy=>?_,B5 h2⟩;rcases Eg hy with e|⟨z,hz,e⟩;omega;have:=h1 z hz;omega;split;rename_i hx hx2;refine List.pairwise_cons.2 ⟨λy hy=>?_,h⟩;rcases List.mem_cons.1 hy with rfl|hy;exact hx2;have:=h1 y hy;simp only;omega;exact List.pairwise_cons.2 ⟨λy hy=>h1 y hy,h2⟩
theorem Az {ep:Int} {ad:List (List Int)}:∀{es:List aj},((ins ep ad es).flatMap (·.Tags)).Perm (ad++es.flatMap (·.Tags))|[]=>by simp[ins]|x::es=>by rw[ins];split;rw[List.flatMap_cons,List.flatMap_cons];refine(List.Perm.append_left _ (Az (es:=es))).trans ?_;rw[←List.append_assoc,←List.append_assoc];exact List.Perm.append_right _ List.perm_append_comm;split;simp;simp
theorem vx:∀{es:List aj},((es.map fF).flatMap (·.Tags)).Perm (es.flatMap (·.Tags))|[]=>by simp|e::es=>by rw[List.map_cons,List.flatMap_cons,List.flatMap_cons];exact(ik _).append vx
section
variable {w:ae}
theorem yw {ep r:Int} {tags:List (List Int)} (h:(addW w ep tags r).2=0):0≤r∧r≤4096∧okB w=true∧(0≤ep∧ep≤w.Newest∧w.Newest - ep<8)∧(lenOf w:Int)+((gt w tags).length:Int)≤r∧addW w ep tags r=(⟨w.Newest,(putI w.Epochs ep (gt w tags)).map fF⟩,0):=by unfold addW at h⊢;cases h1:(decide (r<0)||decide (r>4096)|| !okB w) with|true=>rw[h1] at h;simp at h|false=>rw[h1] at h;cases h2:(decide (ep<0)|| !(decide (ep≤w.Newest)&&decide (w.Newest - ep<8))) with|true=>rw[h2] at h;simp at h|false=>rw[h2] at h;cases h3:decide ((lenOf w:Int)+((gt w tags).length:Int)>r) with|true=>rw[h3] at h;simp at h|false=>simp only[Bool.or_eq_false_iff,decide_eq_false_iff_not,Bool.not_eq_false',Bool.and_eq_true,decide_eq_true_eq] at h1 h2 h3;exact⟨by omega,by omega,h1.2,by omega,by omega,rfl⟩
theorem Eh {ep r:Int} {tags:List (List Int)} (h:(addW w ep tags r).2≠0):(addW w ep tags r).1=⟨0,[]⟩:=by unfold addW at h⊢;cases h1:(decide (r<0)||decide (r>4096)|| !okB w) with|true=>rfl|false=>rw[h1] at h;cases h2:(decide (ep<0)|| !(decide (ep≤w.Newest)&&decide (w.Newest - ep<8))) with|true=>rfl|false=>rw[h2] at h;cases h3:decide ((lenOf w:Int)+((gt w tags).length:Int)>r) with|true=>rfl|false=>rw[h3] at h;simp at h
def put (w:ae) (ep:Int) (tags:List (List Int)):ae:=⟨w.Newest,(putI w.Epochs ep (gt w tags)).map fF⟩
theorem og {tags:List (List Int)} {t:List Int}:t∈gt w tags↔t∈tags∧t∉bZ w:=by unfold gt;rw[(ik _).mem_iff,qN]
theorem rL {tags:List (List Int)}:(gt w tags).Nodup:=(ik _).nodup_iff.2 rK
theorem vy {ep:Int} {tags:List (List Int)}:(bZ (put w ep tags)).Perm (gt w tags++bZ w):=by refine(vx (es:=putI w.Epochs ep (gt w tags))).trans ?_;rw[uc];split;rename_i h;rw[h];exact List.Perm.refl _;exact Az
theorem vz {ep:Int} {tags:List (List Int)} {t:List Int}:t∈bZ (put w ep tags)↔t∈bZ w∨t∈tags:=by rw[vy.mem_iff,List.mem_append,og];by_cases h:t∈bZ w<;>simp[h]
theorem Ff {ep:Int} {tags:List (List Int)}:lenOf (put w ep tags)=(gt w tags).length+lenOf w:=by have:=(vy (w:=w) (ep:=ep) (tags:=tags)).length_eq;rwa [List.length_append] at this
theorem xq {ep s s' r r':Int} {tags:List (List Int)} (h:VW w s r) (ht:Tags tags) (hT:Tags (bZ w)) (he:0≤ep∧ep≤w.Newest∧w.Newest - ep<s') (hs:s≤s') (hl:(lenOf w:Int)+((gt w tags).length:Int)≤r'):VW (put w ep tags) s' r':=by have hnd:(gt w tags++bZ w).Nodup:=List.nodup_append.2 ⟨rL,h.nodup,λa ha b hb e=>by subst e;exact(og.1 ha).2 hb⟩;have hTf:Tags (gt w tags):=λt h=>ht t (og.1 h).1;refine⟨h.new,by rw[Ff];omega,vy.nodup_iff.2 hnd,λe hm=>?_,?_⟩;obtain⟨x,hx,rfl⟩:=List.mem_map.1 hm;(have key:0≤x.Number∧x.Number≤w.Newest∧w.Newest - x.Number<s'∧x.Tags≠[]∧Tags x.Tags∧x.Tags.Nodup:=by (have old:∀y∈w.Epochs,0≤y.Number∧y.Number≤w.Newest∧w.Newest - y.Number<s'∧y.Tags≠[]∧Tags y.Tags∧y.Tags.Nodup:=λy hy=>by obtain⟨a,b,c,d,f⟩:=h.ep y hy;exact⟨a,b,by omega,d,λt htt=>hT t ((pz hy).subset htt),h.nodup.sublist (pz hy)⟩);rw[uc] at hx;split at hx;exact old x hx;rename_i hne;rcases yv hx with hx|rfl|⟨y,hy,hyn,rfl⟩;exact old x hx;exact⟨he.1,he.2.1,he.2.2,hne,hTf,rL⟩;obtain⟨a,b,c,d,f,g⟩:=old y hy;refine⟨a,b,c,by simp[hne],λt htt=>?_,?_⟩;rcases List.mem_append.1 htt with k|k;exact hTf t k;exact f t k;exact hnd.sublist ((List.Sublist.refl _).append (pz hy)));obtain⟨k1,k2,k3,k4,k5,k6⟩:=key;refine⟨k1,k2,k3,λe=>k4 ?_,mP k5 k6⟩;have:=(ik x.Tags).length_eq;have e:msort x.Tags=[]:=e;rw[e] at this;exact List.eq_nil_of_length_eq_zero this.symm;refine List.pairwise_map.2 ?_;show List.Pairwise (λa b:aj=>a.Number<b.Number) _;rw[uc];split;exact h.inc;exact B5 h.inc
end
end Go.Proofs.YtobbmodjdkcdcaaGreatDoor
namespace Go.Proofs.YtobbmodjdkcdcaaGreatDoor
open Go Go.Sim
variable [Fu]
theorem ud {α:Type} (xs:List α):(xs.map (bOne (α:=α))).sum=xs.length:=by induction xs with|nil=>rfl|cons x xs ih=>simp[bOne] at ih⊢;omega
theorem Ei {w:ae} (hg:om w) (hb:jh w≤1048576):dp w:=by obtain⟨h1,⟨h2,h3⟩,_⟩:=hg;(have hsum:(bZ w).length+w.Epochs.length≤(w.Epochs.map ic).sum:=by (have:∀es:List aj,(∀e∈es,mU e)→(es.flatMap (·.Tags)).length+es.length≤(es.map ic).sum:=by intro es hes;induction es with|nil=>simp|cons e es ih=>have i1:=ih λx hx=>hes x (by simp[hx]);obtain⟨_,⟨g2,_⟩,_⟩:=hes e (by simp);(have h16:e.Tags.length≤(e.Tags.map (bArr bOne)).sum:=by (have:∀ts:List (List Int),(∀t∈ts,gArr 16 (gInt .u8) t)→ts.length≤(ts.map (bArr bOne)).sum:=by intro ts hts;induction ts with|nil=>simp|cons t ts ih2=>have i2:=ih2 λx hx=>hts x (by simp[hx]);have i3:=(hts t (by simp)).2;have:bArr bOne t=t.length:=ud t;simp only[List.map_cons,List.sum_cons,List.length_cons,this];omega);exact this _ g2);have hbe:ic e=bOne e.Number+(bSl (bArr bOne) e.Tags+0):=rfl;have hb2:bSl (bArr bOne) e.Tags=(e.Tags.map (bArr bOne)).sum+1:=rfl;simp only[List.flatMap_cons,List.length_append,List.map_cons,List.sum_cons,List.length_cons,hbe,hb2];omega);exact this _ h2);have hbw:jh w=bOne w.Newest+(((w.Epochs.map ic).sum+1)+0):=rfl;refine⟨h1,λe he=>(h2 e he).1,λt ht=>?_,by unfold lenOf;omega,by omega⟩;obtain⟨e,he,het⟩:=List.mem_flatMap.1 ht;obtain⟨_,⟨g2,_⟩,_⟩:=h2 e he;exact⟨(g2 t het).2,λb hb=>(g2 t het).1 b hb⟩
end Go.Proofs.YtobbmodjdkcdcaaGreatDoor
namespace Go.Proofs.YtobbmodjdkcdcaaGreatDoor
open Go Go.Sim
variable [Fu]
section
variable {w:ae}
theorem B6 (hw:dp w):okB w=true↔VW w 8 4096:=by have:=sE hw (s:=8) (r:=4096);unfold okB;rw[this];exact⟨λh=>h.2,λh=>⟨by decide,h⟩⟩
theorem vF (hw:dp w) {ep r:Int} {tags:List (List Int)} (ht:Tags tags) (h:(addW w ep tags r).2=0):VW (put w ep tags) 8 r∧dp (put w ep tags)∧(addW w ep tags r).1=put w ep tags:=by obtain⟨h1,h2,h3,h4,h5,h6⟩:=yw h;have v:=xq ((B6 hw).1 h3) ht hw.tag h4 (Int.le_refl _) h5;refine⟨v,v.good h2 λt htt=>?_,by rw[h6];rfl⟩;rcases vz.1 htt with k|k;exact hw.tag t k;exact ht t k
theorem Df (hw:dp w) {ep r:Int} {tags:List (List Int)} (ht:Tags tags):dp (addW w ep tags r).1:=by by_cases h:(addW w ep tags r).2=0;obtain⟨_,h2,h3⟩:=vF hw ht h;rw[h3];exact h2;rw[Eh h];exact vv
end
end Go.Proofs.YtobbmodjdkcdcaaGreatDoor
