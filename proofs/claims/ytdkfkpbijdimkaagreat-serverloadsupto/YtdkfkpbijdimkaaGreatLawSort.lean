import Derived.Test.YtdkfkpbijdimkaaGreatLawWin
set_option linter.unusedVariables false
set_option linter.unusedSimpArgs false
namespace Go.Proofs.YtdkfkpbijdimkaaGreat
open Go Go.Sim
set_option linter.unusedSectionVars false
variable [Fu]
def mrg:List (List Int)→List (List Int)→List (List Int)
 |[],qs=>qs
 |a::ps,[]=>a::ps
 |a::ps,b::qs=>if ltL b a=true then b::mrg (a::ps) qs else if a=b then a::mrg ps qs else a::mrg ps (b::qs)
 termination_by ps qs=>ps.length+qs.length
theorem gF (ps:List (List Int)):mrg ps []=ps:=by cases ps<;>simp[mrg]
abbrev Rises (l:List (List Int)):Prop:=l.Pairwise fun x y=>ltL x y=true
def Tags (l:List (List Int)):Prop:=∀t∈l,t.length=16∧gb t
theorem cM:∀{ps qs:List (List Int)} {t:List Int},t∈mrg ps qs↔t∈ps∨t∈qs
 |[],qs,t=>by simp[mrg]
 |a::ps,[],t=>by simp[mrg]
 |a::ps,b::qs,t=>by
  unfold mrg
  split
  · have:=cM (ps:=a::ps) (qs:=qs) (t:=t)
    simp only[List.mem_cons,this]
    constructor
    · rintro(h|(h|h)|h)<;>simp[h]
    · rintro((h|h)|h|h)<;>simp[h]
  · split
    · rename_i h1 h2
      subst h2
      have:=cM (ps:=ps) (qs:=qs) (t:=t)
      simp only[List.mem_cons,this]
      constructor
      · rintro(h|h|h)<;>simp[h]
      · rintro((h|h)|h|h)<;>simp[h]
    · have:=cM (ps:=ps) (qs:=b::qs) (t:=t)
      simp only[List.mem_cons,this]
      constructor
      · rintro(h|h|h|h)<;>simp[h]
      · rintro((h|h)|h|h)<;>simp[h]
 termination_by ps qs=>ps.length+qs.length
theorem dn:∀{ps qs:List (List Int)},Tags ps→Tags qs→Rises ps→Rises qs→Rises (mrg ps qs)
 |[],qs,_,_,_,h=>by simpa[mrg] using h
 |a::ps,[],_,_,h,_=>by simpa[mrg] using h
 |a::ps,b::qs,ta,tb,ha,hb=>by
  have ha':=List.pairwise_cons.1 ha
  have hb':=List.pairwise_cons.1 hb
  have ta':Tags ps:=fun t ht=>ta t (by simp[ht])
  have tb':Tags qs:=fun t ht=>tb t (by simp[ht])
  have la:=(ta a (by simp)).1
  have lb:=(tb b (by simp)).1
  unfold mrg
  split
  · rename_i h1
    refine List.pairwise_cons.2 ⟨fun x hx=>?_,dn ta tb' ha hb'.2⟩
    rcases cM.1 hx with hx|hx
    · rcases List.mem_cons.1 hx with rfl|hx
      · exact h1
      · exact dt h1 (ha'.1 x hx)
    · exact hb'.1 x hx
  · rename_i h1
    split
    · rename_i h2
      subst h2
      refine List.pairwise_cons.2 ⟨fun x hx=>?_,dn ta' tb' ha'.2 hb'.2⟩
      rcases cM.1 hx with hx|hx
      · exact ha'.1 x hx
      · exact hb'.1 x hx
    · rename_i h2
      have h3:ltL a b=true:=(dR (by rw[la,lb]) h2).resolve_right h1
      refine List.pairwise_cons.2 ⟨fun x hx=>?_,dn ta' tb ha'.2 hb⟩
      rcases cM.1 hx with hx|hx
      · exact ha'.1 x hx
      · rcases List.mem_cons.1 hx with rfl|hx
        · exact h3
        · exact dt h3 (hb'.1 x hx)
 termination_by ps qs=>ps.length+qs.length
theorem eg:∀{ps qs:List (List Int)},(mrg ps qs).length≤ps.length+qs.length
 |[],qs=>by simp[mrg]
 |a::ps,[]=>by simp[mrg]
 |a::ps,b::qs=>by
  unfold mrg
  split
  · have:=eg (ps:=a::ps) (qs:=qs);simp only[List.length_cons] at this⊢;omega
  · split
    · have:=eg (ps:=ps) (qs:=qs);simp only[List.length_cons] at this⊢;omega
    · have:=eg (ps:=ps) (qs:=b::qs);simp only[List.length_cons] at this⊢;omega
 termination_by ps qs=>ps.length+qs.length
theorem cN {α:Type} {xs:List α} {i:Nat} (h:i<xs.length):xs.drop i=xs[i]::xs.drop (i+1):=List.drop_eq_getElem_cons h
theorem gR {ps qs:List (List Int)} {step:List (List Int)×Int×Int→Option (Ctl (List (List Int)×Int×Int) (List (List Int)))} (hlen:ps.length+qs.length≤1048576)
  (h1:∀(acc:List (List Int)) (i j:Nat) (hi:i<ps.length) (hj:j<qs.length),acc.length≤1048576→step (acc,(i:Int),(j:Int))=some (.next (if ltL qs[j] ps[i]=true then(acc++[qs[j]],(i:Int),((j+1:Nat):Int)) else if ps[i]=qs[j] then(acc++[ps[i]],((i+1:Nat):Int),((j+1:Nat):Int)) else(acc++[ps[i]],((i+1:Nat):Int),(j:Int)))))
  (h2:∀(acc:List (List Int)) (i:Nat) (hi:i<ps.length),acc.length≤1048576→step (acc,(i:Int),(qs.length:Int))=some (.next (acc++[ps[i]],((i+1:Nat):Int),(qs.length:Int))))
  (h3:∀(acc:List (List Int)) (j:Nat) (hj:j<qs.length),acc.length≤1048576→step (acc,(ps.length:Int),(j:Int))=some (.next (acc++[qs[j]],(ps.length:Int),((j+1:Nat):Int))))
  (h4:∀acc:List (List Int),step (acc,(ps.length:Int),(qs.length:Int))=some (.done acc)):Loop.run step ([],0,0)=some (mrg ps qs):=by
 have key:∀(k i j:Nat) (acc:List (List Int)),(ps.length - i)+(qs.length - j)=k→i≤ps.length→j≤qs.length→acc.length+k≤1048576→Loop.run step (acc,(i:Int),(j:Int))=some (acc++mrg (ps.drop i) (qs.drop j)):=by
  intro k
  induction k using Nat.strongRecOn with
  |_ k ihk=>
   intro i j acc hk hi hj hacc
   by_cases hia:i<ps.length
   · by_cases hjb:j<qs.length
     · have hs:=h1 acc i j hia hjb (by omega)
       rw[cN hia,cN hjb]
       by_cases hlt:ltL qs[j] ps[i]=true
       · rw[if_pos hlt] at hs
         rw[Loop.run_next hs,ihk (k - 1) (by omega) i (j+1) (acc++[qs[j]]) (by omega) hi (by omega) (by simp;omega),mrg,if_pos hlt,cN hia]
         simp
       · rw[if_neg hlt] at hs
         by_cases heq:ps[i]=qs[j]
         · rw[if_pos heq] at hs
           rw[Loop.run_next hs,ihk (k - 2) (by omega) (i+1) (j+1) (acc++[ps[i]]) (by omega) (by omega) (by omega) (by simp;omega),mrg,if_neg hlt,if_pos heq]
           simp
         · rw[if_neg heq] at hs
           rw[Loop.run_next hs,ihk (k - 1) (by omega) (i+1) j (acc++[ps[i]]) (by omega) (by omega) hj (by simp;omega),mrg,if_neg hlt,if_neg heq,cN hjb]
           simp
     · have hj2:j=qs.length:=by omega
       subst hj2
       rw[Loop.run_next (h2 acc i hia (by omega)),ihk (k - 1) (by omega) (i+1) qs.length (acc++[ps[i]]) (by omega) (by omega) hj (by simp;omega)]
       rw[List.drop_length,gF,gF,cN hia];simp
   · have hi2:i=ps.length:=by omega
     subst hi2
     by_cases hjb:j<qs.length
     · rw[Loop.run_next (h3 acc j hjb (by omega)),ihk (k - 1) (by omega) ps.length (j+1) (acc++[qs[j]]) (by omega) hi (by omega) (by simp;omega)]
       rw[List.drop_length,cN hjb];simp[mrg]
     · have hj2:j=qs.length:=by omega
       subst hj2
       rw[Loop.run_done (h4 acc),List.drop_length,List.drop_length];simp[mrg]
 exact key _ 0 0 [] rfl (by omega) (by omega) (by simp;omega)
theorem gS:∀(fuel:Nat) (xs:List (List Int)),Tags xs→xs.length≤1048576→xs.length≤2^fuel→
  ∃ys,ax (fuel+1) xs=some ys∧Rises ys∧(∀t,t∈ys↔t∈xs)∧ys.length≤xs.length:=by
 intro fuel
 induction fuel with
 |zero=>
  intro xs ht hl hf
  have h1:((xs.length:Int)<2):=by omega
  refine⟨xs,?_,?_,fun t=>Iff.rfl,Nat.le_refl _⟩
  · rw[ax.eq_2]
    simp only[h1,decide_true,cond_true]
    have:mkB 0 1=true:=by decide
    rw[this,cond_true]
    simp[dg (show([]:List (List Int)).length+xs.length≤room by simp[room];omega)]
  · match xs,hf with
    |[],_=>simp
    |[x],_=>simp
    |_::_::_,h=>simp at h
 |succ fuel ih=>
  intro xs ht hl hf
  by_cases h2:xs.length<2
  · have h1:((xs.length:Int)<2):=by omega
    refine⟨xs,?_,?_,fun t=>Iff.rfl,Nat.le_refl _⟩
    · rw[ax.eq_2]
      simp only[h1,decide_true,cond_true]
      have:mkB 0 1=true:=by decide
      rw[this,cond_true]
      simp[dg (show([]:List (List Int)).length+xs.length≤room by simp[room];omega)]
    · match xs,h2 with
      |[],_=>simp
      |[x],_=>simp
      |_::_::_,h=>simp at h;omega
  · have h1:¬((xs.length:Int)<2):=by omega
    have hp:2^(fuel+1)=2*2^fuel:=by rw[Nat.pow_succ];omega
    have hm:IntKind.i64.wrap (Int.tdiv (xs.length:Int) 2)=((xs.length / 2:Nat):Int):=by
      rw[Int.tdiv_eq_ediv_of_nonneg (by omega),wrap64 (by omega)];omega
    have s1:sub xs 0 ((xs.length / 2:Nat):Int)=some (xs.take (xs.length / 2)):=by
      unfold sub
      have:(decide ((0:Int)≤0)&&decide ((0:Int)≤((xs.length / 2:Nat):Int))&&decide (((xs.length / 2:Nat):Int)≤(xs.length:Int)))=true:=by simp;omega
      rw[this,cond_true];rfl
    have s2:sub xs ((xs.length / 2:Nat):Int) (xs.length:Int)=some (xs.drop (xs.length / 2)):=by
      unfold sub
      have:(decide ((0:Int)≤((xs.length / 2:Nat):Int))&&decide (((xs.length / 2:Nat):Int)≤(xs.length:Int))&&decide ((xs.length:Int)≤(xs.length:Int)))=true:=by simp;omega
      rw[this,cond_true,Int.toNat_natCast,Int.toNat_natCast,List.take_length]
    obtain⟨ps,a1,a2,a3,a4⟩:=ih (xs.take (xs.length / 2)) (fun t h=>ht t (List.mem_of_mem_take h)) (by simp;omega) (by simp;omega)
    obtain⟨qs,b1,b2,b3,b4⟩:=ih (xs.drop (xs.length / 2)) (fun t h=>ht t (List.mem_of_mem_drop h)) (by simp;omega) (by simp;omega)
    simp only[List.length_take,List.length_drop] at a4 b4
    have ta:Tags ps:=fun t h=>ht t (List.mem_of_mem_take ((a3 t).1 h))
    have tb:Tags qs:=fun t h=>ht t (List.mem_of_mem_drop ((b3 t).1 h))
    have hmk:mkB 0 (xs.length:Int)=true:=by
      have hr:(room:Int)=17179869184:=rfl
      simp only[mkB,Bool.and_eq_true,decide_eq_true_eq];omega
    refine⟨mrg ps qs,?_,dn ta tb a2 b2,fun t=>?_,?_⟩
    · rw[ax.eq_2]
      simp only[h1,decide_false,cond_false,hm,s1,Option.bind_some,a1,s2,b1,hmk,cond_true]
      rw[Option.bind_eq_some_iff.2 ⟨mrg ps qs,?_,rfl⟩]
      rw[Option.bind_eq_some_iff.2 ⟨mrg ps qs,?_,rfl⟩]
      simp only[Int.toNat_zero,List.replicate_zero]
      refine gR (ps:=ps) (qs:=qs) (by omega) ?_ ?_ ?_ ?_
      · intro acc i j hia hjb hacc
        have ia:=aJ hia
        have ib:=aJ hjb
        have h1:((i:Int)<(ps.length:Int)):=by omega
        have h2:((j:Int)<(qs.length:Int)):=by omega
        have h3:((j:Int)==(qs.length:Int))=false:=by simp;omega
        have tai:=ta ps[i] (List.getElem_mem hia)
        have tbj:=tb qs[j] (List.getElem_mem hjb)
        have w1:IntKind.i64.wrap ((i:Int)+1)=((i+1:Nat):Int):=by rw[wrap64 (by omega)];rfl
        have w2:IntKind.i64.wrap ((j:Int)+1)=((j+1:Nat):Int):=by rw[wrap64 (by omega)];rfl
        have r1:app acc [ps[i]]=some (acc++[ps[i]]):=dg (by simp[room];omega)
        have r2:app acc [qs[j]]=some (acc++[qs[j]]):=dg (by simp[room];omega)
        by_cases hlt:ltL qs[j] ps[i]=true
        · simp only[h1,h2,h3,decide_true,Bool.or_true,cond_true,cond_false,ib,ia,Option.bind_some,ei tbj.1 tai.1,hlt,Bool.not_true,r2,w2,if_true]
        · have hlt':ltL qs[j] ps[i]=false:=by simpa using hlt
          by_cases heq:ps[i]=qs[j]
          · have heq':(ps[i]==qs[j])=true:=by simpa using heq
            simp only[h1,h2,h3,decide_true,Bool.or_true,cond_true,cond_false,ib,ia,Option.bind_some,ei tbj.1 tai.1,hlt',Bool.not_false,heq',r1,w1,w2,if_pos heq,Bool.false_eq_true,if_false]
          · have heq':(ps[i]==qs[j])=false:=by simpa using heq
            simp only[h1,h2,h3,decide_true,Bool.or_true,cond_true,cond_false,ib,ia,Option.bind_some,ei tbj.1 tai.1,hlt',Bool.not_false,heq',r1,w1,if_neg heq,Bool.false_eq_true,if_false]
      · intro acc i hia hacc
        have ia:=aJ hia
        have h1:((i:Int)<(ps.length:Int)):=by omega
        have h2:¬((qs.length:Int)<(qs.length:Int)):=by omega
        have w1:IntKind.i64.wrap ((i:Int)+1)=((i+1:Nat):Int):=by rw[wrap64 (by omega)];rfl
        have r1:app acc [ps[i]]=some (acc++[ps[i]]):=dg (by simp[room];omega)
        simp only[h1,h2,beq_self_eq_true,decide_true,decide_false,Bool.true_or,cond_true,cond_false,ia,Option.bind_some,r1,w1]
      · intro acc j hjb hacc
        have ib:=aJ hjb
        have h1:¬((ps.length:Int)<(ps.length:Int)):=by omega
        have h2:((j:Int)<(qs.length:Int)):=by omega
        have h3:((j:Int)==(qs.length:Int))=false:=by simp;omega
        have w2:IntKind.i64.wrap ((j:Int)+1)=((j+1:Nat):Int):=by rw[wrap64 (by omega)];rfl
        have r2:app acc [qs[j]]=some (acc++[qs[j]]):=dg (by simp[room];omega)
        simp only[h1,h2,h3,decide_true,decide_false,Bool.or_true,cond_true,cond_false,ib,Option.bind_some,r2,w2]
      · intro acc
        have h1:¬((ps.length:Int)<(ps.length:Int)):=by omega
        have h2:¬((qs.length:Int)<(qs.length:Int)):=by omega
        simp only[h1,h2,decide_false,Bool.or_false,cond_false]
    · rw[cM,a3,b3]
      have:t∈xs↔t∈xs.take (xs.length / 2)++xs.drop (xs.length / 2):=by rw[List.take_append_drop]
      rw[this,List.mem_append]
    · have:=eg (ps:=ps) (qs:=qs);omega
end Go.Proofs.YtdkfkpbijdimkaaGreat
