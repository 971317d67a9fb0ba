import Derived.Test.YtdkfkpbijdimkaaGreatLawSort
set_option linter.unusedVariables false
set_option linter.unusedSimpArgs false
namespace Go.Proofs.YtdkfkpbijdimkaaGreat
open Go Go.Sim
set_option linter.unusedSectionVars false
variable [Fu]
def co (p:Nat→Bool):Nat→Nat→Bool
 |0,_=>true
 |k+1,i=>p i&&co p k (i+1)
theorem cb {p:Nat→Bool}:∀{k i:Nat},co p k i=true↔∀j,i≤j→j<i+k→p j=true
 |0,i=>by simp[co];intro j h1 h2;omega
 |k+1,i=>by
  rw[co,Bool.and_eq_true,cb]
  constructor
  · rintro⟨h1,h2⟩ j hj1 hj2
    by_cases h:j=i
    · subst h;exact h1
    · exact h2 j (by omega) (by omega)
  · intro h;exact⟨h i (by omega) (by omega),fun j h1 h2=>h j (by omega) (by omega)⟩
theorem cG {S R:Type} {step:S→Option (Ctl S R)} (st:Nat→S) (n:Nat) (p:Nat→Bool) (good bad:R) (h:∀i,i<n→step (st i)=some (bif p i then .next (st (i+1)) else .done bad)) (he:step (st n)=some (.done good)) {s0:S} (h0:s0=st 0):
   Loop.run step s0=some (bif co p n 0 then good else bad):=by
 have:=Loop.run_eq0 (step:=step) (st:=st) (res:=fun i=>bif co p (n - i) i then good else bad) (n:=n) ?_ ?_ h0
 · rw[this,Nat.sub_zero]
 · intro i hi
   have e:n - i=(n - (i+1))+1:=by omega
   rw[h i hi]
   cases hp:p i with
   |true=>left;refine⟨rfl,?_⟩;rw[e];simp[co,hp]
   |false=>right;rw[e];simp[co,hp]
 · rw[he,Nat.sub_self];rfl
def epN (w:aa) (i:Nat):Int:=(w.Epochs.getD i ⟨0,[]⟩).Number
def epT (w:aa) (i:Nat):List (List Int):=(w.Epochs.getD i ⟨0,[]⟩).Tags
def okW (w:aa) (s:Int) (i:Nat):Bool:=
 !(decide (epN w i<0))&&(decide (epN w i≤w.Newest)&&decide (w.Newest - epN w i<s))&& !(decide (0<i)&&decide (epN w i≤epN w (i - 1)))&& !((epT w i).isEmpty)&&upB (epT w i) ((epT w i).length - 1)
def fH (ts:List (List Int)):Bool:=co (fun j=>ltL (ts.getD j []) (ts.getD (j+1) [])) (ts.length - 1) 0
def okR (w:aa) (s:Int) (i:Nat):Bool:=
 !(decide (epN w i<0))&&(decide (epN w i≤w.Newest)&&decide (w.Newest - epN w i<s))&& !(decide (0<i)&&decide (epN w i≤epN w (i - 1)))&& !((epT w i).isEmpty)&&fH (epT w i)
def c1 (s r:Int):Bool:= !((((decide (s<1))||(decide (s>8)))||(decide (r<0)))||(decide (r>4096)))
def c2 (w:aa) (r:Int):Bool:= !((decide (w.Newest<0))||(decide (w.Newest>4611686018427387904)))&& !(decide ((lenOf w:Int)>r))
def c3 (w:aa):Bool:=((cF w).length:Int)==(lenOf w:Int)
section
variable {w:aa}
theorem fy (hw:bQ w) {i:Nat} (h:i<w.Epochs.length):Tags w.Epochs[i].Tags:=fun t ht=>hw.tag t (iL h ht)
theorem dG (hw:bQ w) {s r:Int}:bf w s r=some (bif c1 s r&&c2 w r&&c3 w&&co (okW w s) w.Epochs.length 0 then 0 else 2):=by
 have hl:=hw.len
 have he:=hw.eps
 obtain⟨m,hm,hk⟩:=fB hw
 have hml:m.length=(cF w).length:=by rw[←hk];simp
 unfold bf c1
 cases h1:((((decide (s<1))||(decide (s>8)))||(decide (r<0)))||(decide (r>4096))) with
 |true=>simp
 |false=>
  simp only[cond_false,gm hw,Option.bind_some,hm,hml,Bool.not_false,Bool.true_and]
  unfold c2
  cases h2:((decide (w.Newest<0))||(decide (w.Newest>4611686018427387904))) with
  |true=>simp
  |false=>
   simp only[cond_false,Option.bind_some,Bool.not_false,Bool.true_and]
   cases h3:decide ((lenOf w:Int)>r) with
   |true=>simp
   |false=>
    simp only[cond_false,Option.bind_some,Bool.not_false,Bool.true_and]
    unfold c3
    cases h4:(((cF w).length:Int)==(lenOf w:Int)) with
    |false=>simp only[bne,h4,Bool.not_false,cond_true,Bool.false_and,cond_false]
    |true=>
     simp only[bne,h4,Bool.not_true,cond_false,Bool.true_and]
     simp only[Bool.or_eq_false_iff,decide_eq_false_iff_not] at h1 h2 h3
     rw [cG (st := fun i => (i : Int)) (n := w.Epochs.length) (p := okW w s) (good := (.inl () : Unit ⊕ Int)) (bad := .inr 2)]
     · cases co (okW w s) w.Epochs.length 0<;>rfl
     · intro i hi
       have hlt:(i:Int)<(w.Epochs.length:Int):=by omega
       have t1:=fO (fy hw hi) (Nat.le_trans (fM hi) hl)
       have g1:w.Epochs.getD i ⟨0,[]⟩=w.Epochs[i]:=by simp[hi]
       have n1:=fi (hw.num _ (List.getElem_mem hi))
       have w1:IntKind.i64.wrap ((i:Int)+1)=((i+1:Nat):Int):=by rw[wrap64 (by omega)];rfl
       have em:((w.Epochs[i].Tags.length:Int)==0)=w.Epochs[i].Tags.isEmpty:=by cases w.Epochs[i].Tags<;>simp;omega
       simp only[hlt,decide_true,cond_true,aJ hi,Option.bind_some,t1,w1,okW,epN,epT,g1,em]
       have hprev:(bif decide ((i:Int)>0) then(idx w.Epochs (IntKind.wrap .i64 ((i:Int) - 1))).bind fun x235=>some (decide (w.Epochs[i].Number≤x235.Number)) else some false)=some (decide (0<i)&&decide (w.Epochs[i].Number≤(w.Epochs.getD (i - 1) ⟨0,[]⟩).Number)):=by
        by_cases h0:0<i
        · have e1:(i:Int) - 1=((i - 1:Nat):Int):=by omega
          have h5:((i:Int)>0):=by omega
          have hi1:i - 1<w.Epochs.length:=by omega
          rw[wrap64 (by omega),e1,aJ hi1]
          simp[h5,h0,hi1]
        · have h5:¬((i:Int)>0):=by omega
          simp[h5,h0]
       rw[hprev]
       cases hneg:decide (w.Epochs[i].Number<0) with
       |true=>simp
       |false=>
        have hneg':=of_decide_eq_false hneg
        simp only[cond_false,ci,Option.bind_some]
        rw[wrap64 (by omega)]
        generalize (decide (w.Epochs[i].Number≤w.Newest)&&decide (w.Newest - w.Epochs[i].Number<s))=b1
        generalize (decide (0<i)&&decide (w.Epochs[i].Number≤(w.Epochs.getD (i - 1) ⟨0,[]⟩).Number))=b2
        generalize w.Epochs[i].Tags.isEmpty=b3
        generalize upB w.Epochs[i].Tags (w.Epochs[i].Tags.length - 1)=b4
        cases b1<;>cases b2<;>cases b3<;>cases b4<;>rfl
     · simp
     · rfl
theorem fI {ys:List (List Int)} (hr:Rises ys) (hm:∀t,t∈ys↔t∈bj w):ys.length=(cF w).length:=by
 have h1:ys.Nodup:=hr.imp fun{a b} h e=>by subst e;rw[cT] at h;cases h
 have h2:(cF w).Nodup:=gd List.nodup_nil
 exact((List.perm_ext_iff_of_nodup h1 h2).2 fun t=>by rw[hm,cF,gW];simp).length_eq
theorem gh {ts:List (List Int)} (ht:Tags ts) (hl:ts.length≤1048576) (h0:ts≠[]):
   Loop.run (S := Int) (R := (Unit ⊕ Int)) (fun x916 =>
    bif decide (x916<(ts.length:Int)) then
     (idx ts (IntKind.wrap .i64 (x916 - 1))).bind fun x928=>
     (idx ts x916).bind fun x930=>
     (aH x928 x930).bind fun y932=>
     bif !y932 then
      some (.done (.inr 2))
     else
      some (.next (IntKind.wrap .i64 (x916+1)))
    else
     some (.done (.inl ()))) 1=some (bif fH ts then .inl () else .inr 2):=by
 have hpos:0<ts.length:=List.length_pos_iff.2 h0
 rw [cG (st := fun i => ((i + 1 : Nat) : Int)) (n := ts.length - 1) (p := fun j => ltL (ts.getD j []) (ts.getD (j + 1) [])) (good := (.inl () : Unit ⊕ Int)) (bad := .inr 2)]
 · rfl
 · intro i hi
   have hi1:i+1<ts.length:=by omega
   have hi0:i<ts.length:=by omega
   have hlt:((i+1:Nat):Int)<(ts.length:Int):=by omega
   have e1:IntKind.wrap .i64 (((i+1:Nat):Int) - 1)=(i:Int):=by rw[wrap64 (by omega)];omega
   have e2:IntKind.wrap .i64 (((i+1:Nat):Int)+1)=((i+1+1:Nat):Int):=by rw[wrap64 (by omega)];omega
   have t1:=(ht ts[i] (List.getElem_mem hi0)).1
   have t2:=(ht ts[i+1] (List.getElem_mem hi1)).1
   have g1:ts.getD i []=ts[i]:=by simp[hi0]
   have g2:ts.getD (i+1) []=ts[i+1]:=by simp[hi1]
   simp only[hlt,decide_true,cond_true,e1,e2,aJ hi0,aJ hi1,Option.bind_some,ei t1 t2,g1,g2]
   cases ltL ts[i] ts[i+1]<;>rfl
 · have:¬(((ts.length - 1+1:Nat):Int)<(ts.length:Int)):=by omega
   simp only[this,decide_false,cond_false]
 · rfl
theorem fJ (hw:bQ w) {s r:Int}:aL w s r=some (bif c1 s r&&c2 w r&&c3 w&&co (okR w s) w.Epochs.length 0 then 0 else 2):=by
 have hl:=hw.len
 have he:=hw.eps
 have htags:Tags (bj w):=hw.tag
 obtain⟨ys,y1,y2,y3,y4⟩:=gS 63 (bj w) htags hl (Nat.le_trans hl (by decide))
 have hyl:=fI y2 y3
 unfold aL c1 c2
 cases h1:((((decide (s<1))||(decide (s>8)))||(decide (r<0)))||(decide (r>4096))) with
 |true=>simp
 |false=>
  cases h2:((decide (w.Newest<0))||(decide (w.Newest>4611686018427387904))) with
  |true=>
   simp only[Bool.or_assoc,Bool.false_or] at h2⊢
   simp[h2]
  |false=>
   simp only[Bool.or_eq_false_iff] at h2
   simp only[h2.1,h2.2,Bool.or_false,cond_false,fj hw,Option.bind_some,Bool.not_false,Bool.true_and]
   cases h3:decide ((lenOf w:Int)>r) with
   |true=>simp
   |false=>
    simp only[cond_false,Option.bind_some,Bool.not_false,Bool.true_and]
    simp only[Bool.or_eq_false_iff,decide_eq_false_iff_not] at h1 h2 h3
    rw [cG (st := fun i => (i : Int)) (n := w.Epochs.length) (p := okR w s) (good := (.inl () : Unit ⊕ Int)) (bad := .inr 2)]
    · cases co (okR w s) w.Epochs.length 0 with
      |false=>simp
      |true=>
       simp only[cond_true,Option.bind_some,gT hw,y1,hyl,fj hw,c3,bne,Bool.and_true]
       cases ((cF w).length:Int)==(lenOf w:Int)<;>rfl
    · intro i hi
      have hlt:(i:Int)<(w.Epochs.length:Int):=by omega
      have g1:w.Epochs.getD i ⟨0,[]⟩=w.Epochs[i]:=by simp[hi]
      have n1:=fi (hw.num _ (List.getElem_mem hi))
      have w1:IntKind.i64.wrap ((i:Int)+1)=((i+1:Nat):Int):=by rw[wrap64 (by omega)];rfl
      have em:((w.Epochs[i].Tags.length:Int)==0)=w.Epochs[i].Tags.isEmpty:=by cases w.Epochs[i].Tags<;>simp;omega
      have hprev:(bif decide ((i:Int)>0) then(idx w.Epochs (IntKind.wrap .i64 ((i:Int) - 1))).bind fun x894=>some (decide (x894.Number≥w.Epochs[i].Number)) else some false)=some (decide (0<i)&&decide (w.Epochs[i].Number≤(w.Epochs.getD (i - 1) ⟨0,[]⟩).Number)):=by
       by_cases h0:0<i
       · have e1:(i:Int) - 1=((i - 1:Nat):Int):=by omega
         have h5:((i:Int)>0):=by omega
         have hi1:i - 1<w.Epochs.length:=by omega
         rw[wrap64 (by omega),e1,aJ hi1]
         simp[h5,h0,hi1]
       · have h5:¬((i:Int)>0):=by omega
         simp[h5,h0]
      simp only[hlt,decide_true,cond_true,aJ hi,Option.bind_some,w1,okR,epN,epT,g1,em,hprev]
      rw[wrap64 (by omega)]
      have k1:decide (w.Epochs[i].Number>w.Newest)= !(decide (w.Epochs[i].Number≤w.Newest)):=by
       by_cases h:w.Epochs[i].Number≤w.Newest
       · simp[h]
       · simp[h];omega
      have k2:decide (w.Epochs[i].Number≤w.Newest - s)= !(decide (w.Newest - w.Epochs[i].Number<s)):=by
       by_cases h:w.Newest - w.Epochs[i].Number<s
       · simp[h];omega
       · simp[h];omega
      rw[k1,k2]
      cases hem:w.Epochs[i].Tags.isEmpty with
      |true=>
       simp only[Bool.or_true,cond_true,Option.bind_some,Bool.not_true,Bool.and_false,Bool.false_and,cond_false]
      |false=>
       have hne:w.Epochs[i].Tags≠[]:=fun h=>by rw[h] at hem;cases hem
       rw[gh (fy hw hi) (Nat.le_trans (fM hi) hl) hne]
       generalize decide (w.Epochs[i].Number<0)=b0
       generalize decide (w.Epochs[i].Number≤w.Newest)=b1
       generalize decide (w.Newest - w.Epochs[i].Number<s)=b2
       generalize (decide (0<i)&&decide (w.Epochs[i].Number≤(w.Epochs.getD (i - 1) ⟨0,[]⟩).Number))=b3
       generalize fH w.Epochs[i].Tags=b4
       cases b0<;>cases b1<;>cases b2<;>cases b3<;>cases b4<;>rfl
    · simp
    · rfl
theorem gz {ts:List (List Int)}:∀{k:Nat},upB ts k=true↔∀i,i<k→ltL (ts.getD (i+1) []) (ts.getD i [])=false
 |0=>by simp[upB]
 |k+1=>by
  rw[upB,Bool.and_eq_true,gz,Bool.not_eq_true']
  constructor
  · rintro⟨h1,h2⟩ i hi
    by_cases h:i=k
    · subst h;exact h2
    · exact h1 i (by omega)
  · intro h;exact⟨fun i hi=>h i (by omega),h k (by omega)⟩
theorem iB {ts:List (List Int)} (ht:Tags ts) (hn:ts.Nodup):upB ts (ts.length - 1)=fH ts:=by
 have key:∀i,i+1<ts.length→(ltL (ts.getD (i+1) []) (ts.getD i [])=false↔ltL (ts.getD i []) (ts.getD (i+1) [])=true):=by
   intro i hi
   have g1:ts.getD i []=ts[i]:=by simp[show i<ts.length by omega]
   have g2:ts.getD (i+1) []=ts[i+1]:=by simp[hi]
   rw[g1,g2]
   have hne:ts[i]≠ts[i+1]:=fun e=>by
     have:=(List.getElem_inj (h₀:=show i<ts.length by omega) (h₁:=hi) hn).1 e
     omega
   have l1:=(ht ts[i] (List.getElem_mem _)).1
   have l2:=(ht ts[i+1] (List.getElem_mem _)).1
   constructor
   · intro h;exact(dR (by rw[l1,l2]) hne).resolve_right (by rw[h];simp)
   · intro h
     cases h2:ltL ts[i+1] ts[i] with
     |false=>rfl
     |true=>have:=dt h h2;rw[cT] at this;cases this
 rw[Bool.eq_iff_iff,gz,fH,cb]
 constructor
 · intro h j _ hj;exact(key j (by omega)).1 (h j (by omega))
 · intro h i hi;exact(key i (by omega)).2 (h i (by omega) (by omega))
theorem fK (hw:bQ w) {s r:Int}:bf w s r=aL w s r:=by
 rw[dG hw,fJ hw]
 cases h3:c3 w with
 |false=>simp
 |true=>
  have hfull:(bj w).Nodup:=by
   have h4:(cF w).length=lenOf w:=by
    have:=h3;simp only[c3,beq_iff_eq] at this;omega
   exact(gx (l:=bj w) (ks:=[]) (by simpa[cF,lenOf] using h4)).1
  have hok:∀i,i<w.Epochs.length→okW w s i=okR w s i:=by
   intro i hi
   have g1:w.Epochs.getD i ⟨0,[]⟩=w.Epochs[i]:=by simp[hi]
   have hn:(epT w i).Nodup:=by
    have h5:(w.Epochs[i].Tags).Sublist (bj w):=by
     rw[eu w i,cN hi,List.flatMap_cons]
     exact(List.sublist_append_left _ _).trans (List.sublist_append_right _ _)
    simp only[epT,g1];exact hfull.sublist h5
   have ht:Tags (epT w i):=by simp only[epT,g1];exact fy hw hi
   rw[okW,okR,iB ht hn]
  have:co (okW w s) w.Epochs.length 0=co (okR w s) w.Epochs.length 0:=by
   rw[Bool.eq_iff_iff,cb,cb]
   exact⟨fun h j h1 h2=>(hok j (by omega))▸h j h1 h2,fun h j h1 h2=>(hok j (by omega))▸h j h1 h2⟩
  rw[this]
end
end Go.Proofs.YtdkfkpbijdimkaaGreat
