import Derived.Test.YtobbmodjdkcdcaaGreatDoorLawBraid
set_option linter.unusedVariables false
set_option linter.unusedSimpArgs false
set_option maxRecDepth 20000
namespace Go.Proofs.YtobbmodjdkcdcaaGreatDoor
open Go Go.Sim
set_option linter.unusedSectionVars false
variable [Fu]
def gZ {α X:Type} (next:Nat→X→α→Option X):Nat→X→List α→Option X
 |_,x,[]=>some x
 |i,x,a::r=>match next i x a with
  |none=>none
  |some y=>gZ next (i+1) y r
theorem oR {α X S R:Type} {step:S→Option (Ctl S R)} {s0:S} (st:Nat→X→S) (next:Nat→X→α→Option X) (l:List α) (I:Nat→List α→X→Prop) (fin:X→R) (bad:R)
  (h:∀i a r x,l.drop i=a::r→i<l.length→l[i]? =some a→I i (a::r) x→(next i x a=none→step (st i x)=some (.done bad))∧(∀y,next i x a=some y→step (st i x)=some (.next (st (i+1) y))∧I (i+1) r y))
  (hn:∀x,I l.length [] x→step (st l.length x)=some (.done (fin x))) (x0:X) (hI:I 0 l x0) (h0:s0=st 0 x0):
  Loop.run step s0=some (match gZ next 0 x0 l with|some x=>fin x|none=>bad)∧(∀x,gZ next 0 x0 l=some x→I l.length [] x):=by
 subst h0
 have key:∀(r:List α) (i:Nat) (x:X),l.drop i=r→i≤l.length→I i r x→Loop.run step (st i x)=some (match gZ next i x r with|some x=>fin x|none=>bad)∧(∀y,gZ next i x r=some y→I l.length [] y):=by
  intro r
  induction r with
  |nil=>
   intro i x hd hi hI
   have:i=l.length:=by
    have:=congrArg List.length hd
    simp at this;omega
   subst this
   refine⟨Loop.run_done (hn x hI),fun y hy=>?_⟩
   cases hy;exact hI
  |cons a r ih=>
   intro i x hd hi hI
   have hlt:i<l.length:=by
    have:=congrArg List.length hd
    simp at this;omega
   have hget:l[i]? =some a:=by
    have:=List.getElem?_drop (xs:=l) (i:=i) (j:=0)
    rw[hd] at this;simpa using this.symm
   have hd2:l.drop (i+1)=r:=by
    have:=List.drop_drop (i:=1) (j:=i) (l:=l)
    rw[hd] at this;rw[←this];rfl
   obtain⟨b,c⟩:=h i a r x hd hlt hget hI
   simp only[gZ]
   cases hx:next i x a with
   |none=>exact⟨Loop.run_done (b hx),fun y hy=>by cases hy⟩
   |some y=>
    obtain⟨c1,c2⟩:=c y hx
    rw[Loop.run_next c1]
    exact ih (i+1) y hd2 hlt c2
 exact key l 0 x0 rfl (Nat.zero_le _) hI
def patN (_:Nat) (x:List (Nat×Int)×List Int) (d:Int):Option (List (Nat×Int)×List Int):=some (x.1++[locate x.2 d],decr x.2 (locate x.2 d).1)
theorem qR:∀(ds:List Int) (i:Nat) (pp:List (Nat×Int)) (left:List Int),∃z,gZ patN i (pp,left) ds=some (pp++picks left ds,z)
 |[],i,pp,left=>⟨left,by simp[gZ,picks]⟩
 |d::r,i,pp,left=>by
  obtain⟨z,hz⟩:=qR r (i+1) (pp++[locate left d]) (decr left (locate left d).1)
  exact⟨z,by simp only[gZ,patN,picks];rw[hz];simp⟩
theorem qS {left:List Int} {m:Nat} {d:Int} (g:nh left (m+1)) (h0:0≤d) (h1:d<((m+1:Nat):Int)):(locate left d).1<left.length∧0≤(locate left d).2∧(locate left d).2<left.getD (locate left d).1 0:=
 mc (fun x hx=>(g.rng x hx).1) h0 (by rw[g.sum];exact h1)
structure PatI (ds:List Int) (c n:Nat) (i:Nat) (r:List Int) (x:List (Nat×Int)×List Int):Prop where
 good:nh x.2 r.length
 len:x.2.length=c
 pp:x.1.length=i
 idx:∀q∈x.1,q.1<c
 all:i+r.length=n
def vF (n:Nat) (ds:List Int):Prop:=ds.length=n∧∀i,i<n→0≤ds.getD i 0∧ds.getD i 0<(n:Int) - (i:Int)
theorem ua {sizes ds:List Int} {n:Nat} (hc1:1≤sizes.length) (hc2:sizes.length≤64) (g:nh sizes n) (hn:n≤256) (hd:vF n ds):
   fT sizes ds=some (patR sizes.length (picks sizes ds)):=by
 obtain⟨hdl,hdr⟩:=hd
 unfold fT
 rw[xd hc1 hc2 g.rng]
 simp only[ae]
 have e1:((!decide (sizes.sum≤256))||((ds.length:Int) != sizes.sum))=false:=by
   rw[g.sum];simp;omega
 rw[e1,cond_false,bj (by rw[dT];simp;omega)]
 simp only[ae,List.nil_append]
 rw[mt (by omega),cond_true,g.sum,Int.toNat_natCast]
 generalize hc:sizes.length=c at*
 obtain⟨z,hz⟩:=qR ds 0 [] sizes
 rw[(oR (fun(i:Nat) (x:List (Nat×Int)×List Int)=>(x.1.map fun q=>(q.1:Int),x.2,cT c x.1,(i:Int))) patN ds (PatI ds c n) (fun x=>Sum.inl (x.1.map fun q=>(q.1:Int),cT c x.1)) (Sum.inr (([],[],2):List Int×List Int×Int)) ?_ ?_ ([],sizes) ⟨by rw[hdl];exact g,hc,rfl,fun q hq=>(by cases hq),by simp[hdl]⟩ ?_).1]
 · rw[hz]
   simp only[List.nil_append,ae]
   generalize hps:picks sizes ds=ps at*
   have hpl:ps.length=n:=by rw[←hps,qh,hdl]
   have hrows:∀k,((cT c ps).take k).flatten.length≤256*k:=by
     intro k
     induction k with
     |zero=>simp
     | succ k ih =>
       by_cases hk:k<(cT c ps).length
       · rw[List.take_succ_eq_append_getElem hk,List.flatten_append,List.length_append]
         have:((cT c ps)[k]).length≤256:=by
          simp only[cT,List.getElem_map,List.getElem_range,List.length_map]
          exact Nat.le_trans (List.length_filter_le _ _) (by omega)
         simp only[List.flatten_cons,List.flatten_nil,List.append_nil]
         omega
       · rw[List.take_of_length_le (by omega)]
         rw[List.take_of_length_le (by omega)] at ih
         omega
   rw[aV (s0:=([],0)) (r:=(cT c ps).flatten) (fun i=>(((cT c ps).take i).flatten,(i:Int))) 0 (cT c ps).length (Nat.zero_le _) ?_ ?_ ?_]
   · rfl
   · intro i _ hi
     have hd:decide ((i:Int)<((cT c ps).length:Int))=true:=decide_eq_true (by omega)
     have h1:=hrows i
     have h2:((cT c ps).getD i []).length≤256:=by
       have:(cT c ps).getD i []=(ps.filter fun q=>q.1==i).map (·.2):=qQ (by rw[me] at hi;exact hi)
       rw[this,List.length_map]
       exact Nat.le_trans (List.length_filter_le _ _) (by omega)
     have hi2:i<c:=by rw[me] at hi;exact hi
     simp only[hd,cond_true]
     rw[cS (i:=i) [] rfl hi]
     simp only[ae]
     rw[bj (by rw[dT];omega),wrap64 (by omega)]
     simp only[ae]
     rw[List.take_succ_eq_append_getElem hi,List.flatten_append]
     simp[List.getD,hi]
   · have hd:decide (((cT c ps).length:Int)<((cT c ps).length:Int))=false:=decide_eq_false (by omega)
     simp only[hd,cond_false,List.take_length]
   · simp
 · intro i d r x hdr2 hi hget I
   refine⟨fun h=>(by cases h),fun y hy=>?_⟩
   obtain⟨pp,left⟩:=x
   cases hy
   obtain⟨I1,I2,I3,I4,I5⟩:=I
   simp only at I1 I2 I3 I4 I5
   simp only[List.length_cons] at I1 I5
   have hdi:ds.getD i 0=d:=by simp[List.getD,hget]
   have hr:=hdr i (by omega)
   rw[hdi] at hr
   have hd1:d<((r.length+1:Nat):Int):=by omega
   have L:=qS I1 hr.1 hd1
   have Lx:=uK (fun x hx=>(I1.rng x hx).1) hr.1 (by rw[I1.sum];exact hd1)
   have hlt:decide ((i:Int)<(ds.length:Int))=true:=decide_eq_true (by omega)
   have hw:IntKind.wrap .i64 ((n:Int) - (i:Int))=(n:Int) - (i:Int):=wrap64 (by omega)
   have hg1:((decide (d<0))||(decide (d≥(n:Int) - (i:Int))))=false:=by simp only[Bool.or_eq_false_iff,decide_eq_false_iff_not];omega
   have hloc:=sM I1.rng (by omega) left [] d rfl hr.1 (by rw[I1.sum];exact hd1) (by omega)
   simp only[List.length_nil,Nat.zero_add] at hloc
   rw[show(((0:Nat):Int))=0 from rfl] at hloc
   have hm:=I1.rng _ (mU L.1)
   generalize hq:locate left d=q at*
   obtain⟨j,e⟩:=q
   simp only at L Lx hm hloc
   have hfl:((pp.filter fun z=>z.1==j).map (·.2)).length≤pp.length:=by rw[List.length_map];exact List.length_filter_le _ _
   refine⟨?_,?_⟩
   · simp only[hlt,cond_true]
     rw[aK rfl (by omega),hdi]
     simp only[ae,hw,hg1,cond_false]
     rw[hloc]
     simp only[ae]
     rw[aK (xs:=left) (i:=j) rfl (by omega)]
     simp only[ae]
     rw[bj (by rw[dT];simp;omega)]
     simp only[ae]
     rw[cS (xs:=cT c pp) (i:=j) [] rfl (by rw[me];omega),qQ (by omega)]
     simp only[ae]
     rw[bj (by rw[dT];simp only[List.length_cons,List.length_nil];omega)]
     simp only[ae,Int.toNat_natCast]
     have hv:=vz (c:=c) (ps:=pp) (q:=(j,e)) (by simp only;omega)
     simp only at hv
     rw[hv,wrap64 (x:=left.getD j 0 - 1) (by omega),wrap64 (x:=(i:Int)+1) (by omega)]
     simp[decr]
   · have gs:=nh.step I1 hr.1 hd1
     rw[hq] at gs
     refine⟨gs,by simp[decr,I2],by simp[I3],fun q hq2=>?_,by omega⟩
     rcases List.mem_append.1 hq2 with h|h
     · exact I4 q h
     · have:=List.mem_singleton.1 h;subst this;simp only;omega
 · intro x I
   have hlt:decide ((ds.length:Int)<(ds.length:Int))=false:=decide_eq_false (by omega)
   simp only[hlt,cond_false]
 · simp only[List.map_nil,cT,List.filter_nil]
   rw[Prod.mk.injEq,Prod.mk.injEq,Prod.mk.injEq]
   refine⟨rfl,rfl,?_,rfl⟩
   apply List.ext_getElem
   · simp
   · intro k h1 h2;simp
def cntP (pp:List (Nat×Int)) (j:Nat):Nat:=(pp.filter fun q=>q.1==j).length
theorem uL (pp:List (Nat×Int)) (q:Nat×Int) (j:Nat):cntP (pp++[q]) j=cntP pp j+(if q.1=j then 1 else 0):=by
 simp only[cntP,List.filter_append,List.length_append]
 by_cases h:q.1=j
 · simp[h]
 · have:(q.1==j)=false:=by simpa using h
   simp[this,h]
theorem Bs {left:List Int} {j k:Nat} (hj:j<left.length):(decr left j).getD k 0=left.getD k 0 - (if j=k then 1 else 0):=by
 simp only[decr,List.getD,List.getElem?_set,hj,if_true]
 split
 · rename_i h;subst h;simp[hj]
 · simp
theorem xe {sizes:List Int} {c:Nat}:∀(ds left:List Int) (pp:List (Nat×Int)),left.length=c→(∀j,left.getD j 0=sizes.getD j 0 - (cntP pp j:Int))→nh left ds.length→vF ds.length ds→
  ∀pre q r,picks left ds=pre++q::r→q.1<c∧(cntP (pp++pre) q.1:Int)<sizes.getD q.1 0
 |[],left,pp,_,_,_,_,pre,q,r,h=>by cases pre<;>simp[picks] at h
 |d::ds,left,pp,hl,hs,g,hd,pre,q,r,h=>by
  have hr:=hd.2 0 (by simp)
  simp only[List.getD_cons_zero,List.length_cons] at hr
  have L:=qS (m:=ds.length) g hr.1 (by omega)
  simp only[picks] at h
  cases pre with
  |nil=>
   simp only[List.nil_append,List.cons.injEq] at h
   obtain⟨rfl,_⟩:=h
   rw[List.append_nil]
   have:=hs (locate left d).1
   exact⟨by omega,by omega⟩
  |cons p pre=>
   simp only[List.cons_append,List.cons.injEq] at h
   obtain⟨h1,h2⟩:=h
   have:=xe (sizes:=sizes) (c:=c) ds (decr left (locate left d).1) (pp++[locate left d]) (by rw[decr,List.length_set];exact hl) (fun j=>by
    rw[Bs L.1,uL,hs j]
    have:∀(b:Prop) [Decidable b] (x:Int) (y:Nat),x - (y:Int) - (if b then 1 else 0)=x - ((y+(if b then 1 else 0):Nat):Int):=fun b _ x y=>by split<;>omega
    exact this _ _ _) (nh.step g hr.1 (by omega)) ⟨rfl,fun i hi=>by
    have:=hd.2 (i+1) (by simp;omega)
    simp only[List.getD_cons_succ,List.length_cons] at this
    omega⟩ pre q r h2
   rw[←h1,List.append_cons]
   simpa using this
end Go.Proofs.YtobbmodjdkcdcaaGreatDoor
