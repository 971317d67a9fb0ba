import Derived.Test.YtobbmodjdkcdcaaGreatDoorLawPerm
set_option linter.unusedVariables false
set_option linter.unusedSimpArgs false
set_option maxRecDepth 20000
namespace Go.Proofs.YtobbmodjdkcdcaaGreatDoor
open Go Go.Sim
set_option linter.unusedSectionVars false
variable [Fu]
theorem xa {α:Type} {ds:List α} {z d:α} {i m:Nat} (hi:ds.length=i):List.set (ds++List.replicate (m+1) z) i d=(ds++[d])++List.replicate m z:=by
 rw[←hi,List.set_append_right _ _ (Nat.le_refl _),Nat.sub_self,List.replicate_succ,List.set_cons_zero,List.append_assoc];rfl
def fZ (n c:Nat):List Int:=(List.range c).map fun j=>((n / c+(if j<n%c then 1 else 0):Nat):Int)
def kN (n c:Int):List Int×Int:=bif (((decide (n<0))||(decide (n>256)))||(decide (c<1)))||(decide (c>64)) then([],2) else(fZ n.toNat c.toNat,0)
theorem lA (n c:Nat):(fZ n c).length=c:=by simp[fZ]
theorem xb (n c:Int):ii n c=some (kN n c):=by
 unfold ii kN
 cases hc:(((decide (n<0))||(decide (n>256)))||(decide (c<1)))||(decide (c>64)) with
 |true=>rfl
 |false=>
  simp only[Bool.or_eq_false_iff,decide_eq_false_iff_not] at hc
  obtain⟨k,rfl⟩:∃k:Nat,n=k:=⟨n.toNat,by omega⟩
  obtain⟨m,rfl⟩:∃m:Nat,c=m:=⟨c.toNat,by omega⟩
  have hne:decide ((m:Int)≠0)=true:=decide_eq_true (by omega)
  have hdiv:k / m≤k:=Nat.div_le_self _ _
  have hmod:k%m≤k:=Nat.mod_le _ _
  simp only[Int.toNat_natCast,l9,Bq,fZ]
  obtain⟨dv,hdv⟩:∃dv,dv=k / m:=⟨_,rfl⟩
  obtain⟨md,hmd⟩:∃md,md=k%m:=⟨_,rfl⟩
  simp only[←hdv,←hmd] at hdiv hmod⊢
  have hw:IntKind.wrap .i64 (dv:Int)=(dv:Int):=wrap64 (by omega)
  rw[cond_false,mt (by omega),cond_true]
  simp only[hne,cond_true,cond_false,List.length_replicate,hw]
  rw[aV (s0:=(List.replicate m (0:Int),0)) (r:=(List.range m).map fun j=>((dv+(if j<md then 1 else 0):Nat):Int)) (fun i=>((List.range i).map (fun j=>((dv+(if j<md then 1 else 0):Nat):Int))++List.replicate (m - i) (0:Int),(i:Int))) 0 m (Nat.zero_le _) ?_ ?_ rfl]
  · rfl
  · intro i _ hi
    have hd:decide ((i:Int)<(m:Int))=true:=decide_eq_true (by omega)
    obtain⟨q,hq⟩:∃q,m - i=q+1:=⟨m - i - 1,by omega⟩
    have hq2:m - (i+1)=q:=by omega
    simp only[hd,cond_true]
    rw[aK (i:=i) rfl (by simp;omega)]
    simp only[ae]
    rw[hq,hq2,Int.toNat_natCast,xa (by simp),wrap64 (x:=(i:Int)+1) (by omega)]
    by_cases c1:i<md
    · have e1:decide ((i:Int)<((md:Nat):Int))=true:=decide_eq_true (by omega)
      rw[e1,cond_true]
      have hg:((List.range i).map (fun j=>((dv+(if j<md then 1 else 0):Nat):Int))++[((dv:Nat):Int)]++List.replicate q (0:Int)).getD i 0=((dv:Nat):Int):=by
       simp[List.getD,List.getElem?_append]
      rw[aK (i:=i) rfl (by simp),hg]
      simp only[ae]
      rw[wrap64 (by omega),List.append_assoc,List.set_append_right _ _ (by simp)]
      simp only[List.length_map,List.length_range,Nat.sub_self,List.singleton_append,List.set_cons_zero]
      rw[←eb (fun j=>((dv+(if j<md then 1 else 0):Nat):Int)) i,if_pos c1,List.append_assoc]
      rfl
    · have e1:decide ((i:Int)<((md:Nat):Int))=false:=decide_eq_false (by omega)
      rw[e1,cond_false]
      simp only[ae]
      rw[←eb (fun j=>((dv+(if j<md then 1 else 0):Nat):Int)) i,if_neg c1]
      rfl
  · have hd:decide ((m:Int)<(m:Int))=false:=decide_eq_false (by omega)
    simp only[hd,cond_false,Nat.sub_self,List.replicate_zero,List.append_nil]
theorem lB {n c:Nat} (hn:n≤256):∀x∈fZ n c,0≤x∧x≤256:=by
 intro x hx
 obtain⟨j,hj,rfl⟩:=List.mem_map.1 hx
 have hcp:0<c:=by
  rcases Nat.eq_zero_or_pos c with h4|h4
  · subst h4;simp at hj
  · exact h4
 have h1:=Nat.div_add_mod n c
 have h2:n / c≤c*(n / c):=Nat.le_mul_of_pos_left _ hcp
 generalize n / c=a at*
 generalize n%c=b at*
 generalize c*a=p at*
 refine⟨Int.natCast_nonneg _,?_⟩
 split<;>omega
theorem lC (a b:Nat):∀c,b≤c→((List.range c).map fun j=>a+(if j<b then 1 else 0)).sum=c*a+b
 | 0, h => by have : b = 0 := by omega
              subst this;simp
 |c+1,h=>by
  rw[List.range_succ,List.map_append,List.sum_append]
  simp only[List.map_cons,List.map_nil,List.sum_cons,List.sum_nil,Nat.add_zero]
  by_cases hb:b≤c
  · rw[lC a b c hb,if_neg (by omega),Nat.succ_mul];omega
  · have hbc:b=c+1:=by omega
    subst hbc
    have e:((List.range c).map fun j=>a+(if j<c+1 then 1 else 0))=(List.range c).map fun j=>a+(if j<c then 1 else 0):=by
     apply List.map_congr_left
     intro j hj
     have:=List.mem_range.1 hj
     rw[if_pos (by omega),if_pos this]
    rw[e,lC a c c (Nat.le_refl _),if_pos (by omega),Nat.succ_mul];omega
theorem xc:∀l:List Nat,(l.map fun x:Nat=>(x:Int)).sum=((l.sum:Nat):Int)
 |[]=>rfl
 |x::l=>by simp only[List.map_cons,List.sum_cons,xc l];omega
theorem yp {n c:Nat} (hc:0<c):(fZ n c).sum=n:=by
 have e:fZ n c=((List.range c).map fun j=>n / c+(if j<n%c then 1 else 0)).map fun x:Nat=>(x:Int):=by simp[fZ]
 rw[e,xc,lC _ _ c (Nat.le_of_lt (Nat.mod_lt _ hc))]
 have:=Nat.div_add_mod n c
 omega
def iq (n:Nat):List Int:=(List.range n).map fun i:Nat=>(n:Int) - (i:Int)
theorem ma (n:Nat):(iq n).length=n:=by simp[iq]
theorem vy {n:Nat} (h:n≤256):gv (n:Int)=some (iq n):=by
 unfold gv
 by_cases h0:n=0
 · subst h0;rfl
 · have hc:((decide ((n:Int)<1))||(decide ((n:Int)>256)))=false:=by simp;omega
   rw[hc,cond_false,we (by omega),cond_true]
   rw[aV (s0:=(List.replicate (Int.toNat 0) (0:Int),(n:Int))) (r:=iq n) (fun i=>((List.range i).map fun k:Nat=>(n:Int) - (k:Int),(n:Int) - (i:Int))) 0 n (Nat.zero_le _) ?_ ?_ ?_]
   · rfl
   · intro i _ hi
     have hd:decide ((n:Int) - (i:Int)≥1)=true:=decide_eq_true (by omega)
     simp only[hd,cond_true]
     rw[bj (by rw[dT];simp;omega),eb (fun k:Nat=>(n:Int) - (k:Int)),wrap64 (by omega)]
     simp only[ae]
     congr 3;omega
   · have hd:decide ((n:Int) - (n:Int)≥1)=false:=decide_eq_false (by omega)
     simp only[hd,cond_false,iq]
   · simp
theorem qP {n:Nat} (h:n≤256):okBs (iq n)=true:=by
 unfold okBs
 rw[dO]
 intro k _ hk
 rw[ma] at hk
 simp[iq,List.getD,List.getElem?_range (show k<n by omega),isB]
 omega
theorem uJ {n:Nat} (h:n≤256):okBs (lM (n:Int))=true:=by
 unfold okBs
 rw[dO]
 intro k _ hk
 rw[qp] at hk
 have hk2:k<n - 1:=by simpa using hk
 simp[lM,List.getD,List.getElem?_range (show k<n - 1 by omega),isB]
 omega
theorem mU {l:List Int} {i:Nat} (h:i<l.length):l.getD i 0∈l:=by simp only[List.getD,List.getElem?_eq_getElem h,Option.getD_some];exact List.getElem_mem h
theorem kO {l:List Int} {i:Nat} (h:i<l.length):(l.take (i+1)).sum=(l.take i).sum+l.getD i 0:=by
 rw[List.take_succ_eq_append_getElem h,List.sum_append];simp[List.getD,h]
theorem ku {l:List Int} (hl:∀x∈l,0≤x∧x≤256):∀i,0≤(l.take i).sum∧(l.take i).sum≤256*i
 |0=>by simp
 |i+1=>by
  have ih:=ku hl i
  by_cases h:i<l.length
  · rw[kO h]
    have:=hl _ (mU h)
    omega
  · rw[List.take_of_length_le (by omega)]
    rw[List.take_of_length_le (by omega)] at ih
    omega
theorem xd {l:List Int} (h1:1≤l.length) (h2:l.length≤64) (hl:∀x∈l,0≤x∧x≤256):ik l=some (l.sum,decide (l.sum≤256)):=by
 unfold ik
 have hc:((decide ((l.length:Int)<1))||(decide ((l.length:Int)>64)))=false:=by simp;omega
 rw[hc,cond_false]
 rw[aV (s0:=(0,0)) (r:=Sum.inl l.sum) (fun i=>((l.take i).sum,(i:Int))) 0 l.length (Nat.zero_le _) ?_ ?_ rfl]
 · rfl
 · intro i _ hi
   have hd:decide ((i:Int)<(l.length:Int))=true:=decide_eq_true (by omega)
   have hr:=hl _ (mU hi)
   have hs:=ku hl i
   simp only[hd,cond_true]
   rw[aK rfl hi]
   have hb:((decide (l.getD i 0<0))||(decide (l.getD i 0>256)))=false:=by simp only[Bool.or_eq_false_iff,decide_eq_false_iff_not];omega
   simp only[ae,hb,cond_false]
   rw[kO hi,wrap64 (by omega),wrap64 (x:=(i:Int)+1) (by omega)]
   rfl
 · have hd:decide ((l.length:Int)<(l.length:Int))=false:=decide_eq_false (by omega)
   simp only[hd,cond_false,List.take_length]
def locate:List Int→Int→Nat×Int
 |[],d=>(0,d)
 |l::r,d=>bif decide (d≥l) then((locate r (d - l)).1+1,(locate r (d - l)).2) else(0,d)
theorem mc:∀{ls:List Int} {d:Int},(∀x∈ls,0≤x)→0≤d→d<ls.sum→(locate ls d).1<ls.length∧0≤(locate ls d).2∧(locate ls d).2<ls.getD (locate ls d).1 0
 |[],d,_,h0,h1=>by simp at h1;omega
 |l::r,d,hl,h0,h1=>by
  simp only[locate]
  by_cases c:d≥l
  · rw[decide_eq_true c,cond_true]
    have:=mc (ls:=r) (d:=d - l) (fun x hx=>hl x (by simp[hx])) (by omega) (by simp at h1;omega)
    simpa using this
  · rw[decide_eq_false c,cond_false]
    simpa using⟨h0,by omega⟩
theorem uK:∀{ls:List Int} {d:Int},(∀x∈ls,0≤x)→0≤d→d<ls.sum→(locate ls d).2≤d
 |[],d,_,h0,h1=>by simp at h1;omega
 |l::r,d,hl,h0,h1=>by
  simp only[locate]
  by_cases c:d≥l
  · rw[decide_eq_true c,cond_true]
    have:=uK (ls:=r) (d:=d - l) (fun x hx=>hl x (by simp[hx])) (by omega) (by simp at h1;omega)
    have:=hl l (by simp)
    show(locate r (d - l)).2≤d
    omega
  · rw[decide_eq_false c,cond_false];exact Int.le_refl _
theorem sM {left:List Int} (hl:∀x∈left,0≤x∧x≤256) (hn:left.length≤64):∀(r pre:List Int) (d:Int),left=pre++r→0≤d→d<r.sum→d≤65536→
  Loop.run (S:=(Int×Int)) (R:=(Int×Int)) (fun x=>
    (idx left x.2).bind fun x1678=>
    bif decide (x.1≥x1678) then
      (idx left x.2).bind fun x1680=>
      some (.next (IntKind.wrap .i64 (x.1 - x1680),IntKind.wrap .i64 (x.2+1)))
    else
      some (.done (x.1,x.2))) (d,(pre.length:Int))=some ((locate r d).2,((pre.length+(locate r d).1:Nat):Int))
 |[],pre,d,e,h0,h1,h2=>by simp at h1;omega
 |l::r,pre,d,e,h0,h1,h2=>by
  have hlen:pre.length<left.length:=by rw[e];simp
  have hg:left.getD pre.length 0=l:=by rw[e];simp[List.getD]
  have hx:=hl l (by rw[e];simp)
  have hidx:idx left (pre.length:Int)=some l:=by rw[aK rfl hlen,hg]
  simp only[locate]
  by_cases c:d≥l
  · rw[decide_eq_true c,cond_true]
    have ih:=sM hl hn r (pre++[l]) (d - l) (by rw[e];simp) (by omega) (by simp at h1;omega) (by omega)
    rw[Loop.run_next (s':=(d - l,((pre++[l]).length:Int)))]
    · rw[ih];simp;omega
    · simp only[hidx,ae,decide_eq_true c,cond_true]
      rw[wrap64 (by omega),wrap64 (by omega)];simp
  · rw[decide_eq_false c,cond_false]
    refine Loop.run_done ?_
    simp only[hidx,ae,decide_eq_false c,cond_false]
    rfl
def decr (left:List Int) (j:Nat):List Int:=left.set j (left.getD j 0 - 1)
def picks:List Int→List Int→List (Nat×Int)
 |_,[]=>[]
 |left,d::r=>locate left d::picks (decr left (locate left d).1) r
theorem qh:∀(left ds:List Int),(picks left ds).length=ds.length
 |_,[]=>rfl
 |left,d::r=>by simp[picks,qh _ r]
structure nh (left:List Int) (m:Nat):Prop where
 rng:∀x∈left,0≤x∧x≤256
 sum:left.sum=m
theorem Cy {l:List Int} {j:Nat} {x:Int} (h:j<l.length):(l.set j x).sum=l.sum - l.getD j 0+x:=by
 induction l generalizing j with
 |nil=>simp at h
 |cons y l ih=>
  cases j with
  |zero=>simp;omega
  |succ j=>
   have:=ih (j:=j) (by simpa using h)
   simp only[List.set_cons_succ,List.sum_cons,this]
   simp[List.getD];omega
theorem nh.step {left:List Int} {m:Nat} {d:Int} (g:nh left (m+1)) (h0:0≤d) (h1:d<((m+1:Nat):Int)):nh (decr left (locate left d).1) m:=by
 have sp:=mc (fun x hx=>(g.rng x hx).1) h0 (by rw[g.sum];exact h1)
 have hm:=g.rng _ (mU sp.1)
 refine⟨fun x hx=>?_,?_⟩
 · rcases List.mem_or_eq_of_mem_set hx with h|h
   · exact g.rng x h
   · subst h;omega
 · unfold decr
   rw[Cy sp.1,g.sum];omega
def cT (c:Nat) (ps:List (Nat×Int)):List (List Int):=(List.range c).map fun j=>(ps.filter fun q=>q.1==j).map (·.2)
def patR (c:Nat) (ps:List (Nat×Int)):List Int×List Int×Int:=(ps.map fun q=>(q.1:Int),(cT c ps).flatten,0)
theorem me (c:Nat) (ps:List (Nat×Int)):(cT c ps).length=c:=by simp[cT]
theorem qQ {c:Nat} {ps:List (Nat×Int)} {j:Nat} (h:j<c):(cT c ps).getD j []=(ps.filter fun q=>q.1==j).map (·.2):=by
 simp[cT,List.getD,List.getElem?_range h]
theorem vz {c:Nat} {ps:List (Nat×Int)} {q:Nat×Int} (h:q.1<c):(cT c ps).set q.1 (((ps.filter fun z=>z.1==q.1).map (·.2))++[q.2])=cT c (ps++[q]):=by
 apply List.ext_getElem
 · simp[cT]
 · intro j h1 h2
   rw[List.getElem_set]
   have hj:j<c:=by simpa[cT] using h2
   simp only[cT,List.getElem_map,List.getElem_range,List.filter_append,List.map_append]
   split
   · rename_i e;subst e;simp
   · rename_i e
     have:(q.1==j)=false:=by simpa using e
     simp[this]
end Go.Proofs.YtobbmodjdkcdcaaGreatDoor
