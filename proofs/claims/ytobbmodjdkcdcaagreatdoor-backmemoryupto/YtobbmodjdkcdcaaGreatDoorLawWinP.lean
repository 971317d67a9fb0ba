import Derived.Test.YtobbmodjdkcdcaaGreatDoorBm6
import Derived.Test.YtobbmodjdkcdcaaGreatDoorSimC
import Derived.Test.YtobbmodjdkcdcaaGreatDoorLawSrt
set_option linter.unusedVariables false
set_option linter.unusedSimpArgs false
namespace Go.Proofs.YtobbmodjdkcdcaaGreatDoor
open Go Go.Sim
set_option linter.unusedSectionVars false
variable [Fu]
def cR (w:aa):List (List Int):=w.Epochs.flatMap (·.Tags)
def lenOf (w:aa):Nat:=(cR w).length
structure dt (w:aa):Prop where
 newest:gInt .i64 w.Newest
 num:∀e∈w.Epochs,gInt .i64 e.Number
 tag:∀t∈cR w,t.length=16∧aS t
 len:lenOf w≤1048576
 eps:w.Epochs.length≤1048576
def part (w:aa) (i:Nat):List (List Int):=(w.Epochs.take i).flatMap (·.Tags)
theorem mZ {w:aa} {i:Nat} (h:i<w.Epochs.length):part w (i+1)=part w i++w.Epochs[i].Tags:=by
 unfold part;rw[List.take_succ_eq_append_getElem h,List.flatMap_append];simp
theorem xQ (w:aa):part w w.Epochs.length=cR w:=by simp[part,cR]
theorem oe (w:aa) (i:Nat):cR w=part w i++(w.Epochs.drop i).flatMap (·.Tags):=by
 unfold part cR;rw[←List.flatMap_append,List.take_append_drop]
theorem zM (w:aa) (i:Nat):(part w i).length≤lenOf w:=by
 unfold lenOf;rw[oe w i,List.length_append];omega
theorem uZ {w:aa} {i:Nat} (h:i<w.Epochs.length):w.Epochs[i].Tags.length≤lenOf w:=by
 have:=zM w (i+1);rw[mZ h,List.length_append] at this;omega
theorem C8 {w:aa} {i:Nat} (h:i<w.Epochs.length) {t:List Int} (ht:t∈w.Epochs[i].Tags):t∈cR w:=
 List.mem_flatMap.2 ⟨_,List.getElem_mem h,ht⟩
theorem gy {x:Int} (h:gInt .i64 x): -9223372036854775808≤x∧x≤9223372036854775807:=h
section
variable {w:aa}
theorem tF (hw:dt w):fL w=some (lenOf w:Int):=by
 have hl:=hw.len
 have he:=hw.eps
 unfold fL
 rw[Loop.run_eq0 (st:=fun i=>(((part w i).length:Int),(i:Int))) (res:=fun _=>(lenOf w:Int)) (n:=w.Epochs.length)]
 · rfl
 · intro i hi
   left
   have h1:(i:Int)<(w.Epochs.length:Int):=by omega
   have h2:=zM w (i+1)
   rw[mZ hi,List.length_append] at h2
   refine⟨?_,rfl⟩
   simp only[h1,decide_true,cond_true,dK hi,Option.bind_some]
   rw[wrap64 (by omega),wrap64 (by omega),mZ hi,List.length_append]
   simp
 · simp[xQ,lenOf]
 · simp[part]
def mu (w:aa):List (List Int):=(cR w).foldl addk []
theorem xR {ts:List (List Int)} (hl:ts.length≤1048576) {v:Int} {m:List (List Int×Int)}:
   Loop.run (S:=(Int×(List ((List Int)×Int)))) (R:=(List ((List Int)×Int))) (fun(x483,x484)=>
    bif decide (x483<(ts.length:Int)) then
     (idx ts x483).bind fun x494=>
     some (.next (IntKind.wrap .i64 (x483+1),mset x494 v x484))
    else
     some (.done x484)) (0,m)=some (ts.foldl (fun m t=>mset t v m) m):=by
 rw[Loop.run_eq0 (st:=fun i=>((i:Int),(ts.take i).foldl (fun m t=>mset t v m) m)) (res:=fun _=>ts.foldl (fun m t=>mset t v m) m) (n:=ts.length)]
 · intro i hi
   left
   have h1:(i:Int)<(ts.length:Int):=by omega
   refine⟨?_,rfl⟩
   simp only[h1,decide_true,cond_true,dK hi,Option.bind_some]
   rw[wrap64 (by omega),List.take_succ_eq_append_getElem hi,List.foldl_append]
   simp
 · simp
 · simp
theorem u7 (v:Int):∀(ts:List (List Int)) (m:List (List Int×Int)),(ts.foldl (fun m t=>mset t v m) m).map (·.1)=ts.foldl addk (m.map (·.1))
 |[],m=>rfl
 |t::ts,m=>by rw[List.foldl_cons,u7 v ts,qc];rfl
def np (w:aa):Nat→List (List Int×Int)
 |0=>[]
 |i+1=>match w.Epochs[i]? with
  |some e=>e.Tags.foldl (fun m t=>mset t (i:Int) m) (np w i)
  |none=>np w i
theorem tK:∀i,i≤w.Epochs.length→(np w i).map (·.1)=(part w i).foldl addk []
 |0,_=>by simp[np,part]
 |i+1,h=>by
  have hi:i<w.Epochs.length:=h
  have:w.Epochs[i]? =some w.Epochs[i]:=by simp[hi]
  rw[np,this,mZ hi,List.foldl_append,←tK i (by omega),←u7]
theorem pq (hw:dt w):∃m,fv w=some m∧m.map (·.1)=mu w:=by
 have hl:=hw.len
 have he:=hw.eps
 refine⟨np w w.Epochs.length,?_,by rw[tK _ (Nat.le_refl _),xQ];rfl⟩
 unfold fv
 rw[Loop.run_eq0 (st:=fun i=>((i:Int),np w i)) (res:=fun _=>np w w.Epochs.length) (n:=w.Epochs.length)]
 · rfl
 · intro i hi
   left
   have h1:(i:Int)<(w.Epochs.length:Int):=by omega
   have h2:=uZ hi
   refine⟨?_,rfl⟩
   simp only[h1,decide_true,cond_true,dK hi,Option.bind_some]
   rw[xR (by omega)]
   simp only[Option.bind_some]
   rw[wrap64 (by omega)]
   have h3:w.Epochs[i]? =some w.Epochs[i]:=by simp[hi]
   simp only[np,h3]
   simp
 · simp
 · simp[np]
end
theorem BS {a b:List Int}:gh a b=some (cmpB a b):=by simp[gh,iz]
def upB:List (List Int)→Nat→Bool
 |ts,0=>true
 |ts,i+1=>upB ts i&& !(ltL (ts.getD (i+1) []) (ts.getD i []))
theorem xS {ts:List (List Int)} (ht:∀t∈ts,t.length=16∧aS t) (hl:ts.length≤1048576):bz ts=some (upB ts (ts.length - 1)):=by
 unfold bz
 rcases Nat.eq_zero_or_pos ts.length with h0|h0
 · have:ts=[]:=List.eq_nil_of_length_eq_zero h0
   subst this
   rw [Loop.run_done (r := (.inl () : Unit ⊕ Bool))]
   · rfl
   · simp[wrap64]
 rw[wrap64 (by omega)]
 rw [Loop.run_eq0 (st := fun j => (ts.length : Int) - 1 - j) (res := fun j => if upB ts (ts.length - 1 - j) = true then (Sum.inl () : Unit ⊕ Bool) else .inr false) (n := ts.length - 1)]
 · simp only[Nat.sub_zero]
   cases upB ts (ts.length - 1)<;>simp
 · intro j hj
   have e1:(ts.length:Int) - 1 - j=((ts.length - 1 - j:Nat):Int):=by omega
   have e2:(ts.length:Int) - 1 - ((j+1:Nat):Int)=((ts.length - 1 - (j+1):Nat):Int):=by omega
   have e3:ts.length - 1 - j=(ts.length - 1 - (j+1))+1:=by omega
   generalize hk:ts.length - 1 - (j+1)=k at e2 e3
   have hk1:k+1<ts.length:=by omega
   have h1:(((k+1:Nat):Int)>0):=by omega
   have t1:=ht ts[k+1] (List.getElem_mem hk1)
   have t2:=ht ts[k] (List.getElem_mem (by omega))
   have hc:=vu t1.2 t2.2 (by rw[t1.1,t2.1])
   have g1:ts.getD (k+1) []=ts[k+1]:=by simp[hk1]
   have g2:ts.getD k []=ts[k]:=by simp[show k<ts.length by omega]
   simp only[e1,e2,e3,h1,decide_true,cond_true,dK hk1,Option.bind_some,upB,g1,g2]
   rw[wrap64 (by omega),show(((k+1:Nat):Int) - 1)=(k:Int) by omega,dK (show k<ts.length by omega)]
   simp only[Option.bind_some,BS]
   by_cases hlt:ltL ts[k+1] ts[k]=true
   · right
     simp[hc.2 hlt,hlt]
   · left
     have hlt':ltL ts[k+1] ts[k]=false:=by simpa using hlt
     have hc':¬cmpB ts[k+1] ts[k]<0:=fun h=>hlt (hc.1 h)
     simp[hc',hlt']
 · have e1:(ts.length:Int) - 1 - ((ts.length - 1:Nat):Int)=0:=by omega
   simp[e1,upB]
 · simp
end Go.Proofs.YtobbmodjdkcdcaaGreatDoor
set_option linter.unusedVariables false
set_option linter.unusedSimpArgs false
namespace Go.Proofs.YtobbmodjdkcdcaaGreatDoor
open Go Go.Sim
set_option linter.unusedSectionVars false
variable [Fu]
abbrev Rises (l:List (List Int)):Prop:=l.Pairwise fun x y=>ltL x y=true
def Tags (l:List (List Int)):Prop:=∀t∈l,t.length=16∧aS t
theorem zO {α:Type} {xs:List α} {i:Nat} (h:i<xs.length):xs.drop i=xs[i]::xs.drop (i+1):=List.drop_eq_getElem_cons h
end Go.Proofs.YtobbmodjdkcdcaaGreatDoor
set_option linter.unusedVariables false
set_option linter.unusedSimpArgs false
namespace Go.Proofs.YtobbmodjdkcdcaaGreatDoor
open Go Go.Sim
set_option linter.unusedSectionVars false
variable [Fu]
def j8 (p:Nat→Bool):Nat→Nat→Bool
 |0,_=>true
 |k+1,i=>p i&&j8 p k (i+1)
theorem jT {p:Nat→Bool}:∀{k i:Nat},j8 p k i=true↔∀j,i≤j→j<i+k→p j=true
 |0,i=>by simp[j8];intro j h1 h2;omega
 |k+1,i=>by
  rw[j8,Bool.and_eq_true,jT]
  constructor
  · rintro⟨h1,h2⟩ j hj1 hj2
    by_cases h:j=i
    · subst h;exact h1
    · exact h2 j (by omega) (by omega)
  · intro h;exact⟨h i (by omega) (by omega),fun j h1 h2=>h j (by omega) (by omega)⟩
theorem BU {S R:Type} {step:S→Option (Ctl S R)} (st:Nat→S) (n:Nat) (p:Nat→Bool) (good bad:R) (h:∀i,i<n→step (st i)=some (bif p i then .next (st (i+1)) else .done bad)) (he:step (st n)=some (.done good)) {s0:S} (h0:s0=st 0):
   Loop.run step s0=some (bif j8 p n 0 then good else bad):=by
 have:=Loop.run_eq0 (step:=step) (st:=st) (res:=fun i=>bif j8 p (n - i) i then good else bad) (n:=n) ?_ ?_ h0
 · rw[this,Nat.sub_zero]
 · intro i hi
   have e:n - i=(n - (i+1))+1:=by omega
   rw[h i hi]
   cases hp:p i with
   |true=>left;refine⟨rfl,?_⟩;rw[e];simp[j8,hp]
   |false=>right;rw[e];simp[j8,hp]
 · rw[he,Nat.sub_self];rfl
def epN (w:aa) (i:Nat):Int:=(w.Epochs.getD i ⟨0,[]⟩).Number
def epT (w:aa) (i:Nat):List (List Int):=(w.Epochs.getD i ⟨0,[]⟩).Tags
def okW (w:aa) (s:Int) (i:Nat):Bool:=
 !(decide (epN w i<0))&&(decide (epN w i≤w.Newest)&&decide (w.Newest - epN w i<s))&& !(decide (0<i)&&decide (epN w i≤epN w (i - 1)))&& !((epT w i).isEmpty)&&upB (epT w i) ((epT w i).length - 1)
def zP (ts:List (List Int)):Bool:=j8 (fun j=>ltL (ts.getD j []) (ts.getD (j+1) [])) (ts.length - 1) 0
def c1 (s r:Int):Bool:= !((((decide (s<1))||(decide (s>8)))||(decide (r<0)))||(decide (r>4096)))
def c2 (w:aa) (r:Int):Bool:= !((decide (w.Newest<0))||(decide (w.Newest>4611686018427387904)))&& !(decide ((lenOf w:Int)>r))
def c3 (w:aa):Bool:=((mu w).length:Int)==(lenOf w:Int)
section
variable {w:aa}
theorem rL (hw:dt w) {i:Nat} (h:i<w.Epochs.length):Tags w.Epochs[i].Tags:=fun t ht=>hw.tag t (C8 h ht)
theorem pr (hw:dt w) {s r:Int}:fw w s r=some (bif c1 s r&&c2 w r&&c3 w&&j8 (okW w s) w.Epochs.length 0 then 0 else 2):=by
 have hl:=hw.len
 have he:=hw.eps
 obtain⟨m,hm,hk⟩:=pq hw
 have hml:m.length=(mu w).length:=by rw[←hk];simp
 unfold fw c1
 cases h1:((((decide (s<1))||(decide (s>8)))||(decide (r<0)))||(decide (r>4096))) with
 |true=>simp
 |false=>
  simp only[cond_false,tF hw,Option.bind_some,hm,hml,Bool.not_false,Bool.true_and]
  unfold c2
  cases h2:((decide (w.Newest<0))||(decide (w.Newest>4611686018427387904))) with
  |true=>simp
  |false=>
   simp only[cond_false,Option.bind_some,Bool.not_false,Bool.true_and]
   cases h3:decide ((lenOf w:Int)>r) with
   |true=>simp
   |false=>
    simp only[cond_false,Option.bind_some,Bool.not_false,Bool.true_and]
    unfold c3
    cases h4:(((mu w).length:Int)==(lenOf w:Int)) with
    |false=>simp only[bne,h4,Bool.not_false,cond_true,Bool.false_and,cond_false]
    |true=>
     simp only[bne,h4,Bool.not_true,cond_false,Bool.true_and]
     simp only[Bool.or_eq_false_iff,decide_eq_false_iff_not] at h1 h2 h3
     rw [BU (st := fun i => (i : Int)) (n := w.Epochs.length) (p := okW w s) (good := (.inl () : Unit ⊕ Int)) (bad := .inr 2)]
     · cases j8 (okW w s) w.Epochs.length 0<;>rfl
     · intro i hi
       have hlt:(i:Int)<(w.Epochs.length:Int):=by omega
       have t1:=xS (rL hw hi) (Nat.le_trans (uZ hi) hl)
       have g1:w.Epochs.getD i ⟨0,[]⟩=w.Epochs[i]:=by simp[hi]
       have n1:=gy (hw.num _ (List.getElem_mem hi))
       have w1:IntKind.i64.wrap ((i:Int)+1)=((i+1:Nat):Int):=by rw[wrap64 (by omega)];rfl
       have em:((w.Epochs[i].Tags.length:Int)==0)=w.Epochs[i].Tags.isEmpty:=by cases w.Epochs[i].Tags<;>simp;omega
       simp only[hlt,decide_true,cond_true,dK hi,Option.bind_some,t1,w1,okW,epN,epT,g1,em]
       have hprev:(bif decide ((i:Int)>0) then(idx w.Epochs (IntKind.wrap .i64 ((i:Int) - 1))).bind fun x235=>some (decide (w.Epochs[i].Number≤x235.Number)) else some false)=some (decide (0<i)&&decide (w.Epochs[i].Number≤(w.Epochs.getD (i - 1) ⟨0,[]⟩).Number)):=by
        by_cases h0:0<i
        · have e1:(i:Int) - 1=((i - 1:Nat):Int):=by omega
          have h5:((i:Int)>0):=by omega
          have hi1:i - 1<w.Epochs.length:=by omega
          rw[wrap64 (by omega),e1,dK hi1]
          simp[h5,h0,hi1]
        · have h5:¬((i:Int)>0):=by omega
          simp[h5,h0]
       rw[hprev]
       cases hneg:decide (w.Epochs[i].Number<0) with
       |true=>simp
       |false=>
        have hneg':=of_decide_eq_false hneg
        simp only[cond_false,fj,Option.bind_some]
        rw[wrap64 (by omega)]
        generalize (decide (w.Epochs[i].Number≤w.Newest)&&decide (w.Newest - w.Epochs[i].Number<s))=b1
        generalize (decide (0<i)&&decide (w.Epochs[i].Number≤(w.Epochs.getD (i - 1) ⟨0,[]⟩).Number))=b2
        generalize w.Epochs[i].Tags.isEmpty=b3
        generalize upB w.Epochs[i].Tags (w.Epochs[i].Tags.length - 1)=b4
        cases b1<;>cases b2<;>cases b3<;>cases b4<;>rfl
     · simp
     · rfl
theorem zQ {ts:List (List Int)}:∀{k:Nat},upB ts k=true↔∀i,i<k→ltL (ts.getD (i+1) []) (ts.getD i [])=false
 |0=>by simp[upB]
 |k+1=>by
  rw[upB,Bool.and_eq_true,zQ,Bool.not_eq_true']
  constructor
  · rintro⟨h1,h2⟩ i hi
    by_cases h:i=k
    · subst h;exact h2
    · exact h1 i (by omega)
  · intro h;exact⟨fun i hi=>h i (by omega),h k (by omega)⟩
theorem zR {ts:List (List Int)} (ht:Tags ts) (hn:ts.Nodup):upB ts (ts.length - 1)=zP ts:=by
 have key:∀i,i+1<ts.length→(ltL (ts.getD (i+1) []) (ts.getD i [])=false↔ltL (ts.getD i []) (ts.getD (i+1) [])=true):=by
   intro i hi
   have g1:ts.getD i []=ts[i]:=by simp[show i<ts.length by omega]
   have g2:ts.getD (i+1) []=ts[i+1]:=by simp[hi]
   rw[g1,g2]
   have hne:ts[i]≠ts[i+1]:=fun e=>by
     have:=(List.getElem_inj (h₀:=show i<ts.length by omega) (h₁:=hi) hn).1 e
     omega
   have l1:=(ht ts[i] (List.getElem_mem _)).1
   have l2:=(ht ts[i+1] (List.getElem_mem _)).1
   constructor
   · intro h;exact(mT (by rw[l1,l2]) hne).resolve_right (by rw[h];simp)
   · intro h
     cases h2:ltL ts[i+1] ts[i] with
     |false=>rfl
     |true=>have:=jR h h2;rw[jg] at this;cases this
 rw[Bool.eq_iff_iff,zQ,zP,jT]
 constructor
 · intro h j _ hj;exact(key j (by omega)).1 (h j (by omega))
 · intro h i hi;exact(key i (by omega)).2 (h i (by omega) (by omega))
end
end Go.Proofs.YtobbmodjdkcdcaaGreatDoor
set_option linter.unusedVariables false
set_option linter.unusedSimpArgs false
namespace Go.Proofs.YtobbmodjdkcdcaaGreatDoor
open Go Go.Sim
set_option linter.unusedSectionVars false
variable [Fu]
theorem CJ {x:Int} (h1:x< -9223372036854775808) (h2: -9223372036854785808≤x):IntKind.i64.wrap x=x+18446744073709551616:=by
 simp[IntKind.wrap,IntKind.bits,IntKind.signed];omega
theorem CK {x:Int} (h1:9223372036854775807<x) (h2:x≤9223372036854785807):IntKind.i64.wrap x=x - 18446744073709551616:=by
 simp[IntKind.wrap,IntKind.bits,IntKind.signed];omega
theorem tL {a b d:Int} (ha:gInt .i64 a) (hb:gInt .i64 b) (hd: -2000≤d∧d≤2000):eM a b d=some (decide (a>b+d)):=by
 have ha:=gy ha
 have hb:=gy hb
 unfold eM
 by_cases h1:b+d< -9223372036854775808
 · rw[CJ h1 (by omega)]
   have e1:decide (d<0)=true:=by simp;omega
   have e2:decide (b+d+18446744073709551616>b)=true:=by simp;omega
   have e3:decide (a>b+d)=true:=by simp;omega
   simp[e1,e2,e3]
 · by_cases h2:9223372036854775807<b+d
   · rw[CK h2 (by omega)]
     have e1:decide (d<0)=false:=by simp;omega
     have e2:decide (d>0)=true:=by simp;omega
     have e3:decide (b+d - 18446744073709551616<b)=true:=by simp;omega
     have e4:decide (a>b+d)=false:=by simp;omega
     rw[e1,e2,e3,e4];rfl
   · rw[wrap64 (by omega)]
     have e1:(decide (d<0)&&decide (b+d>b))=false:=by
      cases h:decide (d<0)<;>simp at h⊢;omega
     have e2:(decide (d>0)&&decide (b+d<b))=false:=by
      cases h:decide (d>0)<;>simp at h⊢;omega
     rw[e1,e2];rfl
def keep (m s:Int) (e:af):Bool:=decide (e.Number>m - s)
def da (w:aa) (a s:Int):aa×Int:=
 bif decide (s<1)||decide (s>8)||decide (a<0)||decide (a>4611686018427387904) then(⟨0,[]⟩,2)
 else bif decide (w.Newest≥a+s)||decide (w.Newest<a - 1024) then(⟨0,[]⟩,161)
 else(⟨max w.Newest a,w.Epochs.filter (keep (max w.Newest a) s)⟩,0)
section
variable {w:aa}
theorem BV (m s:Int) (i:Nat):((w.Epochs.take i).filter (keep m s)).length≤i:=Nat.le_trans (List.length_filter_le _ _) (by simp;omega)
theorem xT {ts:List (List Int)} (h:ts.length≤1048576):fy ts=some ts:=by
 simp[fy,bj (show([]:List (List Int)).length+ts.length≤room by simp[room];omega)]
theorem rh (hw:dt w) {a s:Int} (ha:gInt .i64 a):fW w a s=some (da w a s):=by
 have hl:=hw.len
 have he:=hw.eps
 have hn:=gy hw.newest
 unfold fW da
 cases hc:(decide (s<1)||decide (s>8)||decide (a<0)||decide (a>4611686018427387904)) with
 |true=>rfl
 |false=>
  simp only[Bool.or_eq_false_iff,decide_eq_false_iff_not] at hc
  obtain⟨⟨⟨c1,c2⟩,c3⟩,c4⟩:=hc
  simp only[cond_false]
  rw[wrap64 (x:=0 - s) (by omega),tL ha hw.newest (by omega),Option.bind_some]
  have hmax:gInt .i64 (max w.Newest a):=by
   show -9223372036854775808≤max w.Newest a∧max w.Newest a≤9223372036854775807
   have:=gy ha
   omega
  cases h1:decide (a>w.Newest+(0 - s)) with
  |false=>
   have:(decide (w.Newest≥a+s)||decide (w.Newest<a - 1024))=true:=by
    simp only[decide_eq_false_iff_not] at h1
    simp;omega
   rw[this];rfl
  |true=>
   simp only[decide_eq_true_eq] at h1
   simp only[Bool.not_true,cond_false]
   rw[tL ha hw.newest (by omega),Option.bind_some,Option.bind_some]
   have e1:(decide (w.Newest≥a+s)||decide (w.Newest<a - 1024))=decide (a>w.Newest+1024):=by
    have:decide (w.Newest≥a+s)=false:=by simp;omega
    rw[this,Bool.false_or];congr 1;exact propext ⟨fun h=>by omega,fun h=>by omega⟩
   rw[e1]
   cases h2:decide (a>w.Newest+1024) with
   |true=>rfl
   |false=>
    simp only[cond_false]
    rw[Loop.run_eq0 (st:=fun i=>((i:Int),(w.Epochs.take i).filter (keep (max w.Newest a) s))) (res:=fun _=>(⟨max w.Newest a,w.Epochs.filter (keep (max w.Newest a) s)⟩:aa)) (n:=w.Epochs.length)]
    · rfl
    · intro i hi
      left
      have h1:(i:Int)<(w.Epochs.length:Int):=by omega
      have hf:=BV (w:=w) (max w.Newest a) s i
      have hep:=uZ hi
      refine⟨?_,rfl⟩
      simp only[h1,decide_true,cond_true,dK hi,Option.bind_some]
      rw[tL (hw.num _ (List.getElem_mem hi)) hmax (by omega),Option.bind_some,wrap64 (by omega)]
      have hk:decide (w.Epochs[i].Number>max w.Newest a+(0 - s))=keep (max w.Newest a) s w.Epochs[i]:=by
       unfold keep;congr 1;exact propext ⟨fun h=>by omega,fun h=>by omega⟩
      rw[hk,List.take_succ_eq_append_getElem hi,List.filter_append]
      cases hkk:keep (max w.Newest a) s w.Epochs[i] with
      |true=>
       rw[xT (by omega)]
       simp only[cond_true,Option.bind_some]
       rw[bj (by simp[room];omega)]
       simp[hkk]
      |false=>simp[hkk]
    · simp
    · simp
end
end Go.Proofs.YtobbmodjdkcdcaaGreatDoor
set_option linter.unusedVariables false
set_option linter.unusedSimpArgs false
namespace Go.Proofs.YtobbmodjdkcdcaaGreatDoor
open Go Go.Sim
set_option linter.unusedSectionVars false
variable [Fu]
section
variable {w:aa}
end
end Go.Proofs.YtobbmodjdkcdcaaGreatDoor
set_option linter.unusedVariables false
set_option linter.unusedSimpArgs false
namespace Go.Proofs.YtobbmodjdkcdcaaGreatDoor
open Go Go.Sim
set_option linter.unusedSectionVars false
variable [Fu]
def msort (ts:List (List Int)):List (List Int):=ts.mergeSort fun x y=> !ltL y x
theorem f7 (ts:List (List Int)):(msort ts).Perm ts:=List.mergeSort_perm _ _
theorem mw {ts:List (List Int)} (ht:Tags ts) (hn:ts.Nodup):Rises (msort ts):=by
 obtain⟨d,hd⟩:=zL ts (fun x hx=>(ht x hx).1) (fun x hx=>(ht x hx).2)
 have hs:(d.mergeSort fun x y=> !ltOf cfT y x).Pairwise fun a b=>(!ltOf cfT b a)=true:=by
  refine List.pairwise_mergeSort (fun a b c h1 h2=>?_) (fun a b=>?_) d
  · simp only[Bool.not_eq_true',Bool.not_eq_eq_eq_not,Bool.not_true] at*
    exact swoT.ntrans _ _ _ h2 h1
  · cases h1:ltOf cfT b a with
    |false=>simp
    |true=>
     cases h2:ltOf cfT a b with
     |false=>simp
     |true=>have:=swoT.trans _ _ _ h1 h2;rw[swoT.irrefl] at this;cases this
 have hnd:(d.mergeSort fun x y=> !ltOf cfT y x).Nodup:=by
  have h2:d.Nodup:=by
    rw[←hd] at hn
    exact(List.pairwise_map.1 hn).imp fun h e=>h (by rw[e])
  exact(List.mergeSort_perm d _).nodup_iff.2 h2
 unfold msort Rises
 rw[←hd,←nn,List.pairwise_map]
 refine(hs.and hnd).imp fun{a b} ⟨h1,h2⟩=>?_
 rw[←mY]
 cases h3:ltOf cfT a b with
 |true=>rfl
 |false=>
  simp only[Bool.not_eq_true',Bool.not_eq_eq_eq_not,Bool.not_true] at h1
  exact absurd (CX a b h3 h1) h2
theorem pt:∀{a b:List (List Int)},Rises a→Rises b→(∀t,t∈a↔t∈b)→a=b
 |[],[],_,_,_=>rfl
 |[],y::b,_,_,h=>by have:=(h y).2 (by simp);simp at this
 |x::a,[],_,_,h=>by have:=(h x).1 (by simp);simp at this
 |x::a,y::b,ha,hb,h=>by
  have ha':=List.pairwise_cons.1 ha
  have hb':=List.pairwise_cons.1 hb
  have hxy:x=y:=by
    have h1:=(h x).1 (by simp)
    have h2:=(h y).2 (by simp)
    rcases List.mem_cons.1 h1 with h1|h1
    · exact h1
    · rcases List.mem_cons.1 h2 with h2|h2
      · exact h2.symm
      · have:=jR (hb'.1 x h1) (ha'.1 y h2)
        rw[jg] at this;cases this
  subst hxy
  congr 1
  refine pt ha'.2 hb'.2 fun t=>⟨fun ht=>?_,fun ht=>?_⟩
  · rcases List.mem_cons.1 ((h t).1 (by simp[ht])) with rfl|h1
    · have:=ha'.1 t ht;rw[jg] at this;cases this
    · exact h1
  · rcases List.mem_cons.1 ((h t).2 (by simp[ht])) with rfl|h1
    · have:=hb'.1 t ht;rw[jg] at this;cases this
    · exact h1
theorem BW {ts:List (List Int)} (ht:Tags ts) (hl:ts.length≤4000000):tx ts=some (msort ts):=by
 unfold tx
 rw[if_pos ⟨fun x hx=>(ht x hx).2,by omega⟩];rfl
def frAt (tags:List (List Int)):Nat→List (List Int×Int)
 |0=>[]
 |i+1=>match tags[i]? with
  |some t=>mset t (i:Int) (frAt tags i)
  |none=>frAt tags i
theorem vc {tags:List (List Int)}:∀i,i≤tags.length→(frAt tags i).map (·.1)=(tags.take i).foldl addk []
 |0,_=>by simp[frAt]
 |i+1,h=>by
  have hi:i<tags.length:=h
  have:tags[i]? =some tags[i]:=by simp[hi]
  rw[frAt,this,List.take_succ_eq_append_getElem hi,List.foldl_append,←vc i (by omega)]
  simp[qc]
theorem vd {x:List Int}:∀{ps:List (List Int×Int)},(ps.map (·.1)).Nodup→(mdel x ps).map (·.1)=(ps.map (·.1)).filter (fun y=> !(x==y))
 |[],_=>rfl
 |p::ps,hn=>by
  have hn':=List.nodup_cons.1 hn
  by_cases h:x=p.1
  · subst h
    have hf:(ps.map (·.1)).filter (fun y=> !(p.1==y))=ps.map (·.1):=List.filter_eq_self.2 fun y hy=>by
     have:p.1≠y:=fun e=>hn'.1 (by show p.1∈_;rw[e];exact hy)
     simpa using this
    simp[mdel,hf]
  · have hne:(x==p.1)=false:=by simpa using h
    have ih:=vd (x:=x) hn'.2
    simp[mdel,hne,ih]
theorem ve:∀{qs ps:List (List Int×Int)},(ps.map (·.1)).Nodup→(qs.foldl (fun s q=>mdel q.1 s) ps).map (·.1)=(ps.map (·.1)).filter fun y=>decide (y∉qs.map (·.1))
 |[],ps,_=>by simp only[List.foldl_nil];exact(List.filter_eq_self.2 fun y _=>by simp).symm
 |q::qs,ps,hn=>by
  have h1:=vd (x:=q.1) hn
  have hn2:((mdel q.1 ps).map (·.1)).Nodup:=by rw[h1];exact hn.filter _
  rw[List.foldl_cons,ve hn2,h1,List.filter_filter]
  refine List.filter_congr fun y _=>?_
  by_cases h:q.1=y
  · subst h;simp
  · have h':¬y=q.1:=fun e=>h e.symm
    have h2:(q.1==y)=false:=by simpa using h
    simp only[List.map_cons,List.mem_cons,h',false_or,h2,Bool.not_false,Bool.and_true]
theorem ri {α β:Type} {f:β→α→β}:∀{l:List α} {s:β},l.foldlM (fun s q=>some (f s q)) s=some (l.foldl f s)
 |[],s=>rfl
 |a::l,s=>by rw[List.foldlM_cons,List.foldl_cons];exact ri
def dh (ep:Int) (ad:List (List Int)) (s:List af×Bool) (e:af):List af×Bool:=
 bif s.2 then(s.1++[e],true)
 else bif decide (e.Number≥ep) then
  bif decide (e.Number>ep) then(s.1++[⟨ep,ad⟩,e],true) else(s.1++[{e with Tags:=ad++e.Tags}],true)
 else(s.1++[e],false)
def insI (es:List af) (ep:Int) (ad:List (List Int)):List af×Bool:=es.foldl (dh ep ad) ([],(ad.length:Int)==0)
def putI (es:List af) (ep:Int) (ad:List (List Int)):List af:=bif (insI es ep ad).2 then(insI es ep ad).1 else(insI es ep ad).1++[⟨ep,ad⟩]
theorem AS {ep:Int} {ad:List (List Int)} {s:List af×Bool} {e:af}:(dh ep ad s e).1.length≤s.1.length+2:=by
 unfold dh
 cases s.2<;>cases decide (e.Number≥ep)<;>cases decide (e.Number>ep)<;>simp
theorem qu {ep:Int} {ad:List (List Int)}:∀{es:List af} {s:List af×Bool},(es.foldl (dh ep ad) s).1.length≤s.1.length+2*es.length
 |[],s=>by simp
 |e::es,s=>by
  have h1:=AS (ep:=ep) (ad:=ad) (s:=s) (e:=e)
  have h2:=qu (ep:=ep) (ad:=ad) (es:=es) (s:=dh ep ad s e)
  rw[List.foldl_cons,List.length_cons];omega
theorem m5 {ts:List (List Int)} (h:ts.length≤4000000):bg ts=some ts:=by
 simp[bg,bj (show([]:List (List Int)).length+ts.length≤room by simp[room];omega)]
def eQ (e:af):af:={e with Tags:=msort e.Tags}
theorem AU {es:List af} {n:Int} (hl:es.length≤4000000) (ht:∀e∈es,Tags e.Tags∧e.Tags.length≤4000000):
   Loop.run (S:=((List af)×Int)) (R:=aa) (fun(x707,x708)=>
     bif decide (x708<(es.length:Int)) then
      (idx x707 x708).bind fun x726=>
      (tx x726.Tags).bind fun y735=>
      some (.next (List.set x707 (Int.toNat x708) ({x726 with Tags:=y735}:af),IntKind.wrap .i64 (x708+1)))
     else
      some (.done (⟨n,x707⟩:aa))) (es,0)=some ⟨n,es.map eQ⟩:=by
 have hat:∀i,(h:i<es.length)→((es.take i).map eQ++es.drop i)[i]? =some es[i]:=fun i h=>by
   rw[List.getElem?_append_right (by simp;omega)]
   simp[Nat.min_eq_left (Nat.le_of_lt h),h]
 rw[Loop.run_eq0 (st:=fun i=>((es.take i).map eQ++es.drop i,(i:Int))) (res:=fun _=>(⟨n,es.map eQ⟩:aa)) (n:=es.length)]
 · intro i hi
   left
   have h1:(i:Int)<(es.length:Int):=by omega
   have hlen:((es.take i).map eQ++es.drop i).length=es.length:=by simp;omega
   refine⟨?_,rfl⟩
   simp only[h1,decide_true,cond_true]
   rw[dK (show i<((es.take i).map eQ++es.drop i).length by omega),Option.bind_some]
   have hg : ((es.take i).map eQ ++ es.drop i)[i]'(by omega) = es[i] := by
    have:=hat i hi
    rw[List.getElem?_eq_getElem (by omega)] at this
    exact Option.some.inj this
   rw[hg,BW (ht _ (List.getElem_mem hi)).1 (ht _ (List.getElem_mem hi)).2,Option.bind_some,wrap64 (by omega)]
   have hset:((es.take i).map eQ++es.drop i).set i (eQ es[i])=(es.take (i+1)).map eQ++es.drop (i+1):=by
    rw[List.set_append_right _ _ (by simp;omega),show i - ((es.take i).map eQ).length=0 by simp;omega,List.drop_eq_getElem_cons hi,List.set_cons_zero,List.take_succ_eq_append_getElem hi,List.map_append,List.append_assoc]
    rfl
   have hz:Int.toNat (i:Int)=i:=by simp
   rw[hz]
   have:({es[i] with Tags:=msort es[i].Tags}:af)=eQ es[i]:=rfl
   rw[this,hset]
   simp
 · simp
 · simp
section
variable {w:aa}
theorem CL {es:List af} {i:Nat} (hi:i<es.length) {ep:Int} {ad:List (List Int)} {s:List af×Bool}:(es.take (i+1)).foldl (dh ep ad) s=dh ep ad ((es.take i).foldl (dh ep ad) s) es[i]:=by
 rw[List.take_succ_eq_append_getElem hi,List.foldl_append];rfl
theorem BX (hw:dt w) {ep:Int} {ad:List (List Int)} (had:ad.length≤1048576):
   Loop.run (S:=(Int×(List af)×Bool)) (R:=((List af)×Bool)) (fun(x226,x228,mode_)=>
       bif mode_ then
        bif decide (x226<(w.Epochs.length:Int)) then
         (idx w.Epochs x226).bind fun x467=>
         ((some ()
          :Option Unit)).bind fun _=>
         (bg x467.Tags).bind fun y476=>
         (app x228 [(⟨x467.Number,y476⟩:af)]).bind fun z479=>
         some (.next (IntKind.wrap .i64 (x226+1),z479,true))
        else
         some (.done (x228,true))
       else
        bif decide (x226<(w.Epochs.length:Int)) then
         (idx w.Epochs x226).bind fun x292=>
         bif decide (x292.Number≥ep) then
          bif decide (x292.Number>ep) then
           (app x228 [(⟨ep,ad⟩:af)]).bind fun z299=>
           (bg x292.Tags).bind fun y303=>
           (app z299 [(⟨x292.Number,y303⟩:af)]).bind fun z306=>
           some (.next (IntKind.wrap .i64 (x226+1),z306,true))
          else
           (app ad x292.Tags).bind fun z310=>
           (bg (({x292 with Tags:=z310}:af).Tags)).bind fun y313=>
           (app x228 [(⟨({x292 with Tags:=z310}:af).Number,y313⟩:af)]).bind fun z316=>
           some (.next (IntKind.wrap .i64 (x226+1),z316,true))
         else
          (bg x292.Tags).bind fun y320=>
          (app x228 [(⟨x292.Number,y320⟩:af)]).bind fun z323=>
          some (.next (IntKind.wrap .i64 (x226+1),z323,false))
        else
         some (.done (x228,false))) (0,[],(ad.length:Int)==0)=some (insI w.Epochs ep ad):=by
 have hl:=hw.len
 have he:=hw.eps
 rw[Loop.run_eq0 (st:=fun i=>((i:Int),(w.Epochs.take i).foldl (dh ep ad) ([],(ad.length:Int)==0))) (res:=fun _=>insI w.Epochs ep ad) (n:=w.Epochs.length)]
 · intro i hi
   left
   have h1:(i:Int)<(w.Epochs.length:Int):=by omega
   have hep:=uZ hi
   have hlen:=qu (ep:=ep) (ad:=ad) (es:=w.Epochs.take i) (s:=([],(ad.length:Int)==0))
   simp only[List.length_nil,List.length_take] at hlen
   refine⟨?_,rfl⟩
   simp only[CL hi]
   generalize (w.Epochs.take i).foldl (dh ep ad) ([],(ad.length:Int)==0)=s at hlen⊢
   obtain⟨acc,m⟩:=s
   simp only at hlen
   have hs:((i:Int)+1)=((i+1:Nat):Int):=by simp
   cases m with
   |true=>
    simp only[h1,decide_true,cond_true,dK hi,Option.bind_some]
    rw[m5 (by omega),Option.bind_some,bj (by simp[room];omega),Option.bind_some,wrap64 (by omega),hs]
    rfl
   |false=>
    simp only[h1,decide_true,cond_true,cond_false,dK hi,Option.bind_some]
    unfold dh
    simp only[cond_false]
    cases hge:decide (w.Epochs[i].Number≥ep) with
    |false=>
     simp only[cond_false]
     rw[m5 (by omega),Option.bind_some,bj (by simp[room];omega),Option.bind_some,wrap64 (by omega),hs]
    |true=>
     simp only[cond_true]
     cases hgt:decide (w.Epochs[i].Number>ep) with
     |true=>
      simp only[cond_true]
      rw[bj (by simp[room];omega),Option.bind_some,m5 (by omega),Option.bind_some,bj (by simp[room];omega),Option.bind_some,wrap64 (by omega),hs]
      simp
     |false=>
      simp only[cond_false]
      rw[bj (by simp[room];omega),Option.bind_some,m5 (by simp;omega),Option.bind_some,bj (by simp[room];omega),Option.bind_some,wrap64 (by omega),hs]
 · have h2:¬((w.Epochs.length:Int)<(w.Epochs.length:Int)):=by omega
   simp only[List.take_length,insI]
   generalize w.Epochs.foldl (dh ep ad) ([],(ad.length:Int)==0)=s
   obtain⟨acc,m⟩:=s
   cases m<;>simp
 · simp
end
end Go.Proofs.YtobbmodjdkcdcaaGreatDoor
set_option linter.unusedVariables false
set_option linter.unusedSimpArgs false
namespace Go.Proofs.YtobbmodjdkcdcaaGreatDoor
open Go Go.Sim
set_option linter.unusedSectionVars false
variable [Fu]
def gX (w:aa) (tags:List (List Int)):List (List Int):=(tags.foldl addk []).filter fun y=>decide (y∉cR w)
def fp (w:aa) (tags:List (List Int)):List (List Int):=msort (gX w tags)
def okB (w:aa):Bool:=c1 8 4096&&c2 w 4096&&c3 w&&j8 (okW w 8) w.Epochs.length 0
def addW (w:aa) (ep:Int) (tags:List (List Int)) (r:Int):aa×Int:=
 bif decide (r<0)||decide (r>4096)|| !okB w then(⟨0,[]⟩,2)
 else bif decide (ep<0)|| !(decide (ep≤w.Newest)&&decide (w.Newest - ep<8)) then(⟨0,[]⟩,161)
 else bif decide ((lenOf w:Int)+((fp w tags).length:Int)>r) then(⟨0,[]⟩,160)
 else(⟨w.Newest,(putI w.Epochs ep (fp w tags)).map eQ⟩,0)
theorem pu {w:aa} {tags:List (List Int)}:(gX w tags).Nodup:=(qN List.nodup_nil).filter _
theorem og {w:aa} {tags:List (List Int)} {t:List Int}:t∈gX w tags↔t∈tags∧t∉cR w:=by
 unfold gX
 rw[List.mem_filter,ut];simp
theorem xU {w:aa} {tags:List (List Int)} (ht:Tags tags):Tags (gX w tags):=fun t h=>ht t (og.1 h).1
theorem rj {a b:List (List Int)} (ht:Tags a) (hn:a.Nodup) (hp:a.Perm b):msort a=msort b:=
 pt (mw ht hn) (mw (fun t h=>ht t (hp.mem_iff.2 h)) (hp.nodup_iff.1 hn)) fun t=>by rw[(f7 a).mem_iff,(f7 b).mem_iff];exact hp.mem_iff
theorem yW {ep:Int} {a b:List (List Int)} {s s':List af×Bool} {e:af} (h1:s.1.map eQ=s'.1.map eQ) (h2:s.2=s'.2) (ha:msort a=msort b) (hc:msort (a++e.Tags)=msort (b++e.Tags)):
  (dh ep a s e).1.map eQ=(dh ep b s' e).1.map eQ∧(dh ep a s e).2=(dh ep b s' e).2:=by
 obtain⟨x,m⟩:=s;obtain⟨y,m'⟩:=s'
 simp only at h1 h2
 subst h2
 unfold dh
 cases m<;>cases decide (e.Number≥ep)<;>cases decide (e.Number>ep)<;>simp[h1,eQ,ha,hc]
theorem tM {ep:Int} {a b:List (List Int)} (ha:msort a=msort b):∀{es:List af} {s s':List af×Bool},(∀e∈es,msort (a++e.Tags)=msort (b++e.Tags))→s.1.map eQ=s'.1.map eQ→s.2=s'.2→
  (es.foldl (dh ep a) s).1.map eQ=(es.foldl (dh ep b) s').1.map eQ∧(es.foldl (dh ep a) s).2=(es.foldl (dh ep b) s').2
 |[],s,s',_,h1,h2=>⟨h1,h2⟩
 |e::es,s,s',hc,h1,h2=>by
  obtain⟨h3,h4⟩:=yW (ep:=ep) h1 h2 ha (hc e (by simp))
  exact tM (s:=dh ep a s e) (s':=dh ep b s' e) ha (fun x hx=>hc x (by simp[hx])) h3 h4
theorem AV {es:List af} {ep:Int} {a b:List (List Int)} (hl:a.length=b.length) (ha:msort a=msort b) (hc:∀e∈es,msort (a++e.Tags)=msort (b++e.Tags)):(putI es ep a).map eQ=(putI es ep b).map eQ:=by
 obtain⟨h1,h2⟩:=tM (ep:=ep) ha (s:=([],(a.length:Int)==0)) (s':=([],(b.length:Int)==0)) hc rfl (by simp[hl])
 unfold putI insI
 rw[h2]
 cases (es.foldl (dh ep b) ([],(b.length:Int)==0)).2<;>simp[h1,eQ,ha]
theorem yX {tags:List (List Int)} (hl:tags.length≤1048576):
   Loop.run (S:=(Int×(List ((List Int)×Int)))) (R:=(List ((List Int)×Int))) (fun(x901,x902)=>
    bif decide (x901<(tags.length:Int)) then
     (idx tags x901).bind fun x912=>
     some (.next (IntKind.wrap .i64 (x901+1),mset x912 x901 x902))
    else
     some (.done x902)) (0,[])=some (frAt tags tags.length):=by
 rw[Loop.run_eq0 (st:=fun i=>((i:Int),frAt tags i)) (res:=fun _=>frAt tags tags.length) (n:=tags.length)]
 · intro i hi
   left
   have h1:(i:Int)<(tags.length:Int):=by omega
   have h2:tags[i]? =some tags[i]:=by simp[hi]
   refine⟨?_,rfl⟩
   simp only[h1,decide_true,cond_true,dK hi,Option.bind_some,frAt,h2]
   rw[wrap64 (by omega)];simp
 · simp
 · simp[frAt]
section
variable {w:aa}
theorem tO (h:c3 w=true):(cR w).Nodup:=by
 have h4:(mu w).length=lenOf w:=by
  have:=h;simp only[c3,beq_iff_eq] at this;omega
 exact(yi (l:=cR w) (ks:=[]) (by simpa[mu,lenOf] using h4)).1
theorem xV:∀{qs:List (List Int×Int)} {acc:List (List Int)},acc.length+qs.length≤4000000→
  qs.foldlM (fun x103 p106=>(app x103 [p106.1]).bind fun z885=>some z885) acc=some (acc++qs.map (·.1))
 |[],acc,_=>by simp
 |q::qs,acc,h=>by
  simp only[List.length_cons] at h
  rw[List.foldlM_cons,bj (by simp[room];omega)]
  simp only[Option.bind_some,Option.bind_eq_bind]
  rw[xV (by simp;omega)]
  simp
theorem xW {es:List af} {ep:Int} {ad:List (List Int)} (P:af→Prop) (h1:∀e∈es,P e) (h2:P ⟨ep,ad⟩) (h3:∀e∈es,P {e with Tags:=ad++e.Tags}):∀e∈putI es ep ad,P e:=by
 have key:∀(l:List af),(∀e∈l,e∈es)→∀s:List af×Bool,(∀e∈s.1,P e)→∀e∈(l.foldl (dh ep ad) s).1,P e:=by
   intro l
   induction l with
   |nil=>intro _ s hs;exact hs
   | cons x l ih =>
     intro hl s hs
     rw[List.foldl_cons]
     refine ih (fun e he=>hl e (by simp[he])) _ fun e he=>?_
     have hx:=hl x (by simp)
     unfold dh at he
     cases h4:s.2<;>cases h5:decide (x.Number≥ep)<;>cases h6:decide (x.Number>ep)<;>simp[h4,h5,h6] at he<;>rcases he with he|he<;>first|exact hs e he|(rw[he];first|exact h1 x hx|exact h3 x hx)|(rcases he with he|he<;>rw[he]<;>first|exact h2|exact h1 _ hx)
 intro e he
 have hfold:=key es (fun e h=>h) ([],(ad.length:Int)==0) (by simp)
 unfold putI insI at he
 cases hm:(es.foldl (dh ep ad) ([],(ad.length:Int)==0)).2<;>rw[hm] at he<;>simp only[cond_true,cond_false] at he
 · rcases List.mem_append.1 he with he|he
   · exact hfold e he
   · simp at he;subst he;exact h2
 · exact hfold e he
theorem BY {es:List af} {ep:Int} {ad:List (List Int)}:(putI es ep ad).length≤2*es.length+1:=by
 have:=qu (ep:=ep) (ad:=ad) (es:=es) (s:=([],(ad.length:Int)==0))
 unfold putI insI
 cases (es.foldl (dh ep ad) ([],(ad.length:Int)==0)).2<;>simp at this⊢<;>omega
end
end Go.Proofs.YtobbmodjdkcdcaaGreatDoor
set_option linter.unusedVariables false
set_option linter.unusedSimpArgs false
namespace Go.Proofs.YtobbmodjdkcdcaaGreatDoor
open Go Go.Sim
set_option linter.unusedSectionVars false
variable [Fu]
theorem lH {α β:Type} {o:Option α} {a:α} {k:α→Option β} {r:Option β} (h:o=some a) (hk:k a=r):o.bind k=r:=by rw[h];exact hk
section
variable {w:aa}
theorem xX (hw:dt w) (hn:(cR w).Nodup) {ep:Int} {tags ad:List (List Int)} (ht:Tags tags) (hl:tags.length≤1048576) (hp:ad.Perm (gX w tags)):
   (putI w.Epochs ep ad).map eQ=(putI w.Epochs ep (fp w tags)).map eQ∧ad.length=(fp w tags).length∧ad.length≤1048576∧∀e∈putI w.Epochs ep ad,Tags e.Tags∧e.Tags.length≤4000000:=by
 have hF:=(f7 (gX w tags))
 have hp2:ad.Perm (fp w tags):=hp.trans hF.symm
 have hK:=xU (w:=w) ht
 have hTad:Tags ad:=fun t h=>hK t (hp.mem_iff.1 h)
 have hNad:ad.Nodup:=hp.nodup_iff.2 pu
 have hlen:(gX w tags).length≤1048576:=by
   have h1:(gX w tags).length≤(tags.foldl addk []).length:=List.length_filter_le _ _
   have h2:=uu (l:=tags) (ks:=([]:List (List Int)))
   simp at h2;omega
 have hlad:ad.length≤1048576:=by rw[hp.length_eq];exact hlen
 have hwl:=hw.len
 have hNe:∀e∈w.Epochs,(ad++e.Tags).Nodup:=fun e he=>by
   have hs:e.Tags.Sublist (cR w):=by
     obtain⟨j,hj,rfl⟩:=List.getElem_of_mem he
     rw[oe w j,zO hj,List.flatMap_cons]
     exact((List.sublist_append_left _ _).trans (List.sublist_append_right _ _))
   refine List.nodup_append.2 ⟨hNad,hn.sublist hs,fun a ha b hb e=>?_⟩
   subst e
   exact(og.1 (hp.mem_iff.1 ha)).2 (hs.subset hb)
 have hTe:∀e∈w.Epochs,Tags e.Tags:=fun e he=>by
   obtain⟨j,hj,rfl⟩:=List.getElem_of_mem he
   exact rL hw hj
 have hLe:∀e∈w.Epochs,e.Tags.length≤1048576:=fun e he=>by
   obtain⟨j,hj,rfl⟩:=List.getElem_of_mem he
   have:=uZ hj;omega
 refine⟨AV hp2.length_eq (rj hTad hNad hp2) fun e he=>rj (fun t h=>?_) (hNe e he) (hp2.append_right _),hp2.length_eq,hlad,?_⟩
 · rcases List.mem_append.1 h with h|h
   · exact hTad t h
   · exact hTe e he t h
 · refine xW (fun e=>Tags e.Tags∧e.Tags.length≤4000000) (fun e he=>⟨hTe e he,by have:=hLe e he;omega⟩) ⟨hTad,by simp only;omega⟩ fun e he=>⟨fun t h=>?_,by have:=hLe e he;simp;omega⟩
   rcases List.mem_append.1 h with h|h
   · exact hTad t h
   · exact hTe e he t h
theorem yY (hw:dt w) {ep r:Int} (hep:gInt .i64 ep) {tags:List (List Int)} (ht:Tags tags) (hl:tags.length≤1048576):ja w ep tags r=some (addW w ep tags r):=by
 have hwl:=hw.len
 have hwe:=hw.eps
 have hne:=gy hw.newest
 have hepr:=gy hep
 unfold ja addW
 cases hr:(decide (r<0)||decide (r>4096)) with
 |true=>simp
 |false=>
  simp only[cond_false,Bool.false_or]
  rw[pr hw]
  have hok:(c1 8 4096&&c2 w 4096&&c3 w&&j8 (okW w 8) w.Epochs.length 0)=okB w:=rfl
  rw[hok]
  cases hb:okB w with
  |false=>simp
  |true=>
   have hb':=hb
   unfold okB at hb'
   simp only[Bool.and_eq_true] at hb'
   obtain⟨⟨⟨_,hc2⟩,hc3⟩,_⟩:=hb'
   have hN:0≤w.Newest∧w.Newest≤4611686018427387904:=by
    unfold c2 at hc2;simp at hc2;omega
   have hnd:=tO hc3
   simp only[cond_true,Option.bind_some,bne_self_eq_false,cond_false,Bool.not_true]
   cases h1:decide (ep<0) with
   |true=>simp
   |false=>
    simp only[decide_eq_false_iff_not] at h1
    have hk:fj ep w.Newest 8=some (decide (ep≤w.Newest)&&decide (w.Newest - ep<8)):=by
     unfold fj;rw[wrap64 (by omega)]
    simp only[cond_false,hk,Option.bind_some,Bool.false_or]
    cases h2:(decide (ep≤w.Newest)&&decide (w.Newest - ep<8)) with
    |false=>simp
    |true=>
     simp only[Bool.not_true,cond_false]
     rw[yX hl]
     obtain⟨m,hm,hmk⟩:=pq hw
     rw[hm]
     simp only[Option.bind_some]
     refine uo fun qs hq=>?_
     rw[ri (f:=fun s (q:List Int×Int)=>mdel q.1 s)]
     simp only[Option.bind_some]
     have hfk:=vc (tags:=tags) tags.length (Nat.le_refl _)
     rw[List.take_length] at hfk
     have hkeys:(qs.foldl (fun s q=>mdel q.1 s) (frAt tags tags.length)).map (·.1)=gX w tags:=by
      rw[ve (by rw[hfk];exact qN List.nodup_nil),hfk]
      unfold gX
      refine List.filter_congr fun y _=>?_
      have:y∈qs.map (·.1)↔y∈cR w:=by
       rw[(hq.map _).mem_iff,hmk,mu,ut];simp
      simp[this]
     generalize qs.foldl (fun s q=>mdel q.1 s) (frAt tags tags.length)=fm at hkeys
     have hfl:fm.length=(gX w tags).length:=by rw[←hkeys];simp
     have hFl:(fp w tags).length=(gX w tags).length:=(f7 _).length_eq
     obtain⟨_,_,hKl,_⟩:=xX hw hnd (ep:=ep) ht hl (List.Perm.refl (gX w tags))
     rw[tF hw]
     simp only[Option.bind_some]
     rw[wrap64 (by omega),hfl,hFl]
     cases h3:decide ((lenOf w:Int)+((gX w tags).length:Int)>r) with
     |true=>rfl
     |false=>
      simp only[cond_false]
      refine uo fun ps hps=>?_
      have hadp:(ps.map (·.1)).Perm (gX w tags):=by rw[←hkeys];exact hps.map _
      obtain⟨t1,t2,t3,t4⟩:=xX hw hnd (ep:=ep) ht hl hadp
      have hapl:=xV (qs:=ps) (acc:=[]) (by have:=hps.length_eq;simp;omega)
      rw[List.nil_append] at hapl
      rw[hapl]
      simp only[Option.bind_some]
      refine lH (BX hw t3) ?_
      have hpl:=BY (es:=w.Epochs) (ep:=ep) (ad:=ps.map (·.1))
      have hsl:=AU (n:=w.Newest) (by omega) t4
      rw[←t1]
      unfold putI at hsl hpl⊢
      generalize hI:insI w.Epochs ep (ps.map (·.1))=s at hsl hpl⊢
      obtain⟨acc,mo⟩:=s
      cases mo with
      |true=>
       simp only[cond_true] at hsl⊢
       exact lH (lH hsl rfl) rfl
      |false=>
       simp only[cond_false] at hsl hpl⊢
       refine lH (lH (bj (by simp at hpl;simp[room];omega)) rfl) ?_
       exact lH (lH hsl rfl) rfl
end
end Go.Proofs.YtobbmodjdkcdcaaGreatDoor
set_option linter.unusedVariables false
set_option linter.unusedSimpArgs false
namespace Go.Proofs.YtobbmodjdkcdcaaGreatDoor
open Go Go.Sim
set_option linter.unusedSectionVars false
variable [Fu]
section
variable {w:aa}
end
end Go.Proofs.YtobbmodjdkcdcaaGreatDoor
set_option linter.unusedVariables false
set_option linter.unusedSimpArgs false
namespace Go.Proofs.YtobbmodjdkcdcaaGreatDoor
open Go Go.Sim
set_option linter.unusedSectionVars false
variable [Fu]
section
variable {H A:List (List Int)}
end
end Go.Proofs.YtobbmodjdkcdcaaGreatDoor
set_option linter.unusedVariables false
set_option linter.unusedSimpArgs false
namespace Go.Proofs.YtobbmodjdkcdcaaGreatDoor
open Go Go.Sim
set_option linter.unusedSectionVars false
variable [Fu]
theorem yZ {ts:List (List Int)} (h:zP ts=true):Rises ts:=by
 have h1:=jT.1 h
 have key:∀d i,(hi:i+d+1<ts.length)→ltL (ts.getD i []) (ts.getD (i+d+1) [])=true:=by
  intro d
  induction d with
  |zero=>intro i hi;exact h1 i (by omega) (by omega)
  |succ d ih=>intro i hi;exact jR (ih i (by omega)) (by have:=h1 (i+d+1) (by omega) (by omega);rwa [show i+(d+1)+1=i+d+1+1 by omega])
 refine List.pairwise_iff_getElem.2 fun i j hi hj hij=>?_
 have:=key (j - i - 1) i (by omega)
 rw[show i+(j - i - 1)+1=j by omega] at this
 simpa[hi,hj] using this
section
variable {w:aa}
end
end Go.Proofs.YtobbmodjdkcdcaaGreatDoor
set_option linter.unusedVariables false
set_option linter.unusedSimpArgs false
namespace Go.Proofs.YtobbmodjdkcdcaaGreatDoor
open Go Go.Sim
set_option linter.unusedSectionVars false
variable [Fu]
theorem tP:dt ⟨0,[]⟩:=⟨⟨by decide,by decide⟩,by simp,by simp[cR],by simp[lenOf,cR],by simp⟩
theorem xY {xs ys:List af} (h:List.Sublist xs ys):List.Sublist (xs.flatMap (·.Tags)) (ys.flatMap (·.Tags)):=by
 induction h with
 |slnil=>exact List.Sublist.refl _
 |cons a _ ih=>rw[List.flatMap_cons];exact ih.trans (List.sublist_append_right _ _)
 |cons_cons a _ ih=>rw[List.flatMap_cons,List.flatMap_cons];exact(List.Sublist.refl _).append ih
theorem oh {w:aa} (hw:dt w) {a s:Int} (ha:gInt .i64 a):dt (da w a s).1:=by
 unfold da
 cases (decide (s<1)||decide (s>8)||decide (a<0)||decide (a>4611686018427387904)) with
 |true=>exact tP
 |false=>
  cases (decide (w.Newest≥a+s)||decide (w.Newest<a - 1024)) with
  |true=>exact tP
  |false=>
   have h1:=gy hw.newest
   have h2:=gy ha
   have hs:List.Sublist (w.Epochs.filter (keep (max w.Newest a) s)) w.Epochs:=List.filter_sublist
   have ht:List.Sublist ((w.Epochs.filter (keep (max w.Newest a) s)).flatMap (·.Tags)) (cR w):=xY hs
   exact⟨show -9223372036854775808≤max w.Newest a∧max w.Newest a≤9223372036854775807 by omega,fun e he=>hw.num e (hs.subset he),fun t h=>hw.tag t (ht.subset h),Nat.le_trans ht.length_le hw.len,Nat.le_trans hs.length_le hw.eps⟩
end Go.Proofs.YtobbmodjdkcdcaaGreatDoor
set_option linter.unusedVariables false
set_option linter.unusedSimpArgs false
namespace Go.Proofs.YtobbmodjdkcdcaaGreatDoor
open Go Go.Sim
set_option linter.unusedSectionVars false
variable [Fu]
structure VW (w:aa) (s r:Int):Prop where
 new:0≤w.Newest∧w.Newest≤4611686018427387904
 len:(lenOf w:Int)≤r
 nodup:(cR w).Nodup
 ep:∀e∈w.Epochs,0≤e.Number∧e.Number≤w.Newest∧w.Newest - e.Number<s∧e.Tags≠[]∧Rises e.Tags
 inc:w.Epochs.Pairwise fun a b=>a.Number<b.Number
theorem AW {l ks:List (List Int)} (h:l.Nodup) (h2:∀x∈l,x∉ks):l.foldl addk ks=ks++l:=by
 induction l generalizing ks with
 |nil=>simp
 |cons x l ih=>
  obtain⟨h3,h4⟩:=List.nodup_cons.1 h
  have hx:=h2 x (by simp)
  have:addk ks x=ks++[x]:=by simp[addk,hx]
  rw[List.foldl_cons,this,ih h4 fun y hy hm=>by
   rcases List.mem_append.1 hm with hm|hm
   · exact h2 y (by simp[hy]) hm
   · simp at hm;subst hm;exact h3 hy]
  simp
theorem BZ {w:aa}:c3 w=true↔(cR w).Nodup:=by
 constructor
 · exact tO
 · intro h
   have:=AW (ks:=[]) h (by simp)
   simp[c3,mu,lenOf,this]
theorem j9 {α:Type} {xs:List α} {i:Nat} (h:i<xs.length) (d:α):xs.getD i d=xs[i]:=by simp[h]
theorem B0 {ts:List (List Int)} (h:Rises ts):zP ts=true:=by
 refine jT.2 fun j _ hj=>?_
 rw[j9 (show j<ts.length by omega),j9 (show j+1<ts.length by omega)]
 exact List.pairwise_iff_getElem.1 h j (j+1) (by omega) (by omega) (by omega)
section
variable {w:aa}
theorem mx {e:af} (he:e∈w.Epochs):e.Tags.Sublist (cR w):=by
 obtain⟨i,hi,rfl⟩:=List.getElem_of_mem he
 rw[oe w i,zO hi,List.flatMap_cons]
 exact((List.sublist_append_left _ _).trans (List.sublist_append_right _ _))
theorem vf (hw:dt w) {s r:Int}:(c1 s r&&c2 w r&&c3 w&&j8 (okW w s) w.Epochs.length 0)=true↔c1 s r=true∧VW w s r:=by
 simp only[Bool.and_eq_true]
 constructor
 · rintro⟨⟨⟨h1,h2⟩,h3⟩,h4⟩
   have hn:=BZ.1 h3
   have hk:=fun i (hi:i<w.Epochs.length)=>jT.1 h4 i (by omega) (by omega)
   simp only[c2,Bool.and_eq_true,Bool.not_eq_true',Bool.or_eq_false_iff,decide_eq_false_iff_not] at h2
   refine⟨h1,⟨by omega,by omega,hn,fun e he=>?_,?_⟩⟩
   · obtain⟨i,hi,rfl⟩:=List.getElem_of_mem he
     have h:=hk i hi
     have g:w.Epochs.getD i ⟨0,[]⟩=w.Epochs[i]:=j9 hi _
     simp only[okW,epN,epT,g,Bool.and_eq_true,Bool.not_eq_true',decide_eq_false_iff_not,decide_eq_true_eq,List.isEmpty_eq_false_iff] at h
     obtain⟨⟨⟨⟨a1,a2⟩,a3⟩,a4⟩,a5⟩:=h
     rw[zR (rL hw hi) (hn.sublist (mx (List.getElem_mem hi)))] at a5
     exact⟨by omega,a2.1,a2.2,a4,yZ a5⟩
   · have adj:∀i,(h:i+1<w.Epochs.length)→w.Epochs[i].Number<w.Epochs[i+1].Number:=fun i h=>by
       have h5:=hk (i+1) h
       have g:w.Epochs.getD (i+1) ⟨0,[]⟩=w.Epochs[i+1]:=j9 h _
       have g2:w.Epochs.getD i ⟨0,[]⟩=w.Epochs[i]:=j9 (by omega) _
       simp only[okW,epN,epT,Nat.add_sub_cancel,g,g2,Bool.and_eq_true,Bool.not_eq_true',Bool.and_eq_false_iff,decide_eq_false_iff_not,decide_eq_true_eq] at h5
       have:=h5.1.1.2
       omega
     have far:∀d i,(h:i+d+1<w.Epochs.length)→w.Epochs[i].Number<w.Epochs[i+d+1].Number:=by
       intro d
       induction d with
       |zero=>intro i h;exact adj i h
       |succ d ih=>intro i h;have h1:=ih i (by omega);have h2:=adj (i+d+1) (by omega);simp only[show i+(d+1)+1=i+d+1+1 by omega];omega
     refine List.pairwise_iff_getElem.2 fun i j hi hj hij=>?_
     have:=far (j - i - 1) i (by omega)
     simp only[show i+(j - i - 1)+1=j by omega] at this;exact this
 · rintro⟨h1,v⟩
   have hv1:=v.new
   have hv2:=v.len
   refine⟨⟨⟨h1,?_⟩,BZ.2 v.nodup⟩,jT.2 fun i _ hi=>?_⟩
   · simp only[c2,Bool.and_eq_true,Bool.not_eq_true',Bool.or_eq_false_iff,decide_eq_false_iff_not];omega
   · have hi:i<w.Epochs.length:=by omega
     have g:w.Epochs.getD i ⟨0,[]⟩=w.Epochs[i]:=j9 hi _
     obtain⟨a1,a2,a3,a4,a5⟩:=v.ep _ (List.getElem_mem hi)
     simp only[okW,epN,epT,g,Bool.and_eq_true,Bool.not_eq_true',decide_eq_false_iff_not,decide_eq_true_eq,List.isEmpty_eq_false_iff]
     refine⟨⟨⟨⟨by omega,a2,a3⟩,?_⟩,a4⟩,?_⟩
     · cases i with
       |zero=>simp
       |succ i=>
        have g2:w.Epochs.getD i ⟨0,[]⟩=w.Epochs[i]:=j9 (by omega) _
        have:=List.pairwise_iff_getElem.1 v.inc i (i+1) (by omega) hi (by omega)
        simp only[Nat.add_sub_cancel,g2,Bool.and_eq_false_iff,decide_eq_false_iff_not];omega
     · rw[zR (rL hw hi) (v.nodup.sublist (mx (List.getElem_mem hi)))];exact B0 a5
end
theorem VW.good {w:aa} {s r:Int} (h:VW w s r) (hr:r≤4096) (ht:Tags (cR w)):dt w:=by
 have h1:=h.new
 have h2:=h.len
 refine⟨show -9223372036854775808≤w.Newest∧w.Newest≤9223372036854775807 by omega,fun e he=>?_,ht,by omega,?_⟩
 · obtain⟨a,b,_⟩:=h.ep e he
   show -9223372036854775808≤e.Number∧e.Number≤9223372036854775807;omega
 · have:∀es:List af,(∀e∈es,e.Tags≠[])→es.length≤(es.flatMap (·.Tags)).length:=by
    intro es
    induction es with
    |nil=>simp
    |cons e es ih=>
     intro h
     have h1:=ih fun x hx=>h x (by simp[hx])
     have h2:0<e.Tags.length:=List.length_pos_iff.2 (h e (by simp))
     simp only[List.flatMap_cons,List.length_append,List.length_cons];omega
   have:=this w.Epochs fun e he=>(h.ep e he).2.2.2.1
   have h3:lenOf w=(w.Epochs.flatMap (·.Tags)).length:=rfl
   omega
theorem xZ {w:aa} {a s s' r:Int} (h:VW w s r) (ha:0≤a∧a≤4611686018427387904):VW ⟨max w.Newest a,w.Epochs.filter (keep (max w.Newest a) s')⟩ s' r:=by
 have h1:=h.new
 have hs:List.Sublist (w.Epochs.filter (keep (max w.Newest a) s')) w.Epochs:=List.filter_sublist
 have ht:List.Sublist ((w.Epochs.filter (keep (max w.Newest a) s')).flatMap (·.Tags)) (cR w):=xY hs
 refine⟨by simp only;omega,?_,h.nodup.sublist ht,fun e he=>?_,h.inc.sublist hs⟩
 · have:=h.len
   have h2:=ht.length_le
   have h3:lenOf w=(cR w).length:=rfl
   have h4:lenOf ⟨max w.Newest a,w.Epochs.filter (keep (max w.Newest a) s')⟩=((w.Epochs.filter (keep (max w.Newest a) s')).flatMap (·.Tags)).length:=rfl
   omega
 · obtain⟨h2,h3⟩:=List.mem_filter.1 he
   obtain⟨a1,a2,a3,a4⟩:=h.ep e h2
   simp only[keep,decide_eq_true_eq] at h3
   exact⟨a1,by simp only;omega,by simp only;omega,a4⟩
theorem B3 {w:aa} {a s:Int} (h:(da w a s).2=0):(1≤s∧s≤8∧0≤a∧a≤4611686018427387904)∧(w.Newest<a+s∧a - 1024≤w.Newest)∧da w a s=(⟨max w.Newest a,w.Epochs.filter (keep (max w.Newest a) s)⟩,0):=by
 unfold da at h⊢
 cases hc:(decide (s<1)||decide (s>8)||decide (a<0)||decide (a>4611686018427387904)) with
 |true=>rw[hc] at h;simp at h
 |false=>
  rw[hc] at h
  cases hd:(decide (w.Newest≥a+s)||decide (w.Newest<a - 1024)) with
  |true=>rw[hd] at h;simp at h
  |false=>
   simp only[Bool.or_eq_false_iff,decide_eq_false_iff_not] at hc hd
   exact⟨by omega,by omega,rfl⟩
def ins (ep:Int) (ad:List (List Int)):List af→List af
 |[]=>[⟨ep,ad⟩]
 |e::es=>if e.Number<ep then e::ins ep ad es else if e.Number>ep then⟨ep,ad⟩::e::es else{e with Tags:=ad++e.Tags}::es
theorem m6 {ep:Int} {ad:List (List Int)}:∀{es acc:List af},es.foldl (dh ep ad) (acc,true)=(acc++es,true)
 |[],acc=>by simp
 |e::es,acc=>by rw[List.foldl_cons];simp[dh,m6 (es:=es)]
theorem tQ {ep:Int} {ad:List (List Int)}:∀{es acc:List af},(bif (es.foldl (dh ep ad) (acc,false)).2 then(es.foldl (dh ep ad) (acc,false)).1 else(es.foldl (dh ep ad) (acc,false)).1++[⟨ep,ad⟩])=acc++ins ep ad es
 |[],acc=>by simp[ins]
 |e::es,acc=>by
  rw[List.foldl_cons]
  by_cases h1:e.Number<ep
  · have h2:decide (e.Number≥ep)=false:=by simp;omega
    have:dh ep ad (acc,false) e=(acc++[e],false):=by simp[dh,h2]
    rw[this,tQ (es:=es),ins,if_pos h1];simp
  · have h2:decide (e.Number≥ep)=true:=by simp;omega
    by_cases h3:e.Number>ep
    · have h4:decide (e.Number>ep)=true:=by simpa using h3
      have:dh ep ad (acc,false) e=(acc++[⟨ep,ad⟩,e],true):=by simp[dh,h2,h4]
      rw[this,m6,ins,if_neg h1,if_pos h3];simp
    · have h4:decide (e.Number>ep)=false:=by simpa using h3
      have:dh ep ad (acc,false) e=(acc++[{e with Tags:=ad++e.Tags}],true):=by simp[dh,h2,h4]
      rw[this,m6,ins,if_neg h1,if_neg h3];simp
theorem wg {es:List af} {ep:Int} {ad:List (List Int)}:putI es ep ad=if ad=[] then es else ins ep ad es:=by
 unfold putI insI
 by_cases h:ad=[]
 · subst h;simp[m6]
 · have:((ad.length:Int)==0)=false:=by
    have:=List.length_pos_iff.2 h
    simp;omega
   rw[this,tQ,if_neg h];simp
theorem wh {ep:Int} {ad:List (List Int)}:∀{es:List af} {e:af},e∈ins ep ad es→e∈es∨e=⟨ep,ad⟩∨∃e0∈es,e0.Number=ep∧e={e0 with Tags:=ad++e0.Tags}
 |[],e,h=>by simp[ins] at h;exact .inr (.inl h)
 |x::es,e,h=>by
  rw[ins] at h
  split at h
  · rcases List.mem_cons.1 h with rfl|h
    · exact .inl (by simp)
    · rcases wh h with h|h|⟨e0,h,k⟩
      · exact .inl (by simp[h])
      · exact .inr (.inl h)
      · exact .inr (.inr ⟨e0,by simp[h],k⟩)
  · split at h
    · rcases List.mem_cons.1 h with rfl|h
      · exact .inr (.inl rfl)
      · exact .inl h
    · rcases List.mem_cons.1 h with rfl|h
      · exact .inr (.inr ⟨x,by simp,by omega,rfl⟩)
      · exact .inl (by simp[h])
theorem B4 {ep:Int} {ad:List (List Int)} {es:List af} {e:af} (h:e∈ins ep ad es):e.Number=ep∨∃x∈es,e.Number=x.Number:=by
 rcases wh h with h|rfl|⟨e0,h,k,rfl⟩
 · exact .inr ⟨e,h,rfl⟩
 · exact .inl rfl
 · exact .inl k
theorem zT {ep:Int} {ad:List (List Int)}:∀{es:List af},es.Pairwise (fun a b=>a.Number<b.Number)→(ins ep ad es).Pairwise (fun a b=>a.Number<b.Number)
 |[],_=>by simp[ins]
 |x::es,h=>by
  obtain⟨h1,h2⟩:=List.pairwise_cons.1 h
  rw[ins]
  split
  · rename_i hx
    refine List.pairwise_cons.2 ⟨fun y hy=>?_,zT h2⟩
    rcases B4 hy with e|⟨z,hz,e⟩
    · omega
    · have:=h1 z hz;omega
  · split
    · rename_i hx hx2
      refine List.pairwise_cons.2 ⟨fun y hy=>?_,h⟩
      rcases List.mem_cons.1 hy with rfl|hy
      · exact hx2
      · have:=h1 y hy;simp only;omega
    · exact List.pairwise_cons.2 ⟨fun y hy=>h1 y hy,h2⟩
theorem ya {ep:Int} {ad:List (List Int)}:∀{es:List af},((ins ep ad es).flatMap (·.Tags)).Perm (ad++es.flatMap (·.Tags))
 |[]=>by simp[ins]
 |x::es=>by
  rw[ins]
  split
  · rw[List.flatMap_cons,List.flatMap_cons]
    refine(List.Perm.append_left _ (ya (es:=es))).trans ?_
    rw[←List.append_assoc,←List.append_assoc]
    exact List.Perm.append_right _ List.perm_append_comm
  · split
    · simp
    · simp
theorem tS:∀{es:List af},((es.map eQ).flatMap (·.Tags)).Perm (es.flatMap (·.Tags))
 |[]=>by simp
 |e::es=>by
  rw[List.map_cons,List.flatMap_cons,List.flatMap_cons]
  exact(f7 _).append tS
section
variable {w:aa}
theorem zU {ep r:Int} {tags:List (List Int)} (h:(addW w ep tags r).2=0):0≤r∧r≤4096∧okB w=true∧(0≤ep∧ep≤w.Newest∧w.Newest - ep<8)∧(lenOf w:Int)+((fp w tags).length:Int)≤r∧addW w ep tags r=(⟨w.Newest,(putI w.Epochs ep (fp w tags)).map eQ⟩,0):=by
 unfold addW at h⊢
 cases h1:(decide (r<0)||decide (r>4096)|| !okB w) with
 |true=>rw[h1] at h;simp at h
 |false=>
  rw[h1] at h
  cases h2:(decide (ep<0)|| !(decide (ep≤w.Newest)&&decide (w.Newest - ep<8))) with
  |true=>rw[h2] at h;simp at h
  |false=>
   rw[h2] at h
   cases h3:decide ((lenOf w:Int)+((fp w tags).length:Int)>r) with
   |true=>rw[h3] at h;simp at h
   |false=>
    simp only[Bool.or_eq_false_iff,decide_eq_false_iff_not,Bool.not_eq_false',Bool.and_eq_true,decide_eq_true_eq] at h1 h2 h3
    exact⟨by omega,by omega,h1.2,by omega,by omega,rfl⟩
theorem B5 {ep r:Int} {tags:List (List Int)} (h:(addW w ep tags r).2≠0):(addW w ep tags r).1=⟨0,[]⟩:=by
 unfold addW at h⊢
 cases h1:(decide (r<0)||decide (r>4096)|| !okB w) with
 |true=>rfl
 |false=>
  rw[h1] at h
  cases h2:(decide (ep<0)|| !(decide (ep≤w.Newest)&&decide (w.Newest - ep<8))) with
  |true=>rfl
  |false=>
   rw[h2] at h
   cases h3:decide ((lenOf w:Int)+((fp w tags).length:Int)>r) with
   |true=>rfl
   |false=>rw[h3] at h;simp at h
def put (w:aa) (ep:Int) (tags:List (List Int)):aa:=⟨w.Newest,(putI w.Epochs ep (fp w tags)).map eQ⟩
theorem oi {tags:List (List Int)} {t:List Int}:t∈fp w tags↔t∈tags∧t∉cR w:=by
 unfold fp;rw[(f7 _).mem_iff,og]
theorem pv {tags:List (List Int)}:(fp w tags).Nodup:=(f7 _).nodup_iff.2 pu
theorem tT {ep:Int} {tags:List (List Int)}:(cR (put w ep tags)).Perm (fp w tags++cR w):=by
 refine(tS (es:=putI w.Epochs ep (fp w tags))).trans ?_
 rw[wg]
 split
 · rename_i h;rw[h];exact List.Perm.refl _
 · exact ya
theorem B6 {ep:Int} {tags:List (List Int)} {t:List Int}:t∈cR (put w ep tags)↔t∈cR w∨t∈tags:=by
 rw[tT.mem_iff,List.mem_append,oi]
 by_cases h:t∈cR w<;>simp[h]
theorem CM {ep:Int} {tags:List (List Int)}:lenOf (put w ep tags)=(fp w tags).length+lenOf w:=by
 have:=(tT (w:=w) (ep:=ep) (tags:=tags)).length_eq
 rwa [List.length_append] at this
theorem vg {ep s s' r r':Int} {tags:List (List Int)} (h:VW w s r) (ht:Tags tags) (hT:Tags (cR w)) (he:0≤ep∧ep≤w.Newest∧w.Newest - ep<s') (hs:s≤s') (hl:(lenOf w:Int)+((fp w tags).length:Int)≤r'):VW (put w ep tags) s' r':=by
 have hnd:(fp w tags++cR w).Nodup:=List.nodup_append.2 ⟨pv,h.nodup,fun a ha b hb e=>by subst e;exact(oi.1 ha).2 hb⟩
 have hTf:Tags (fp w tags):=fun t h=>ht t (oi.1 h).1
 refine⟨h.new,by rw[CM];omega,tT.nodup_iff.2 hnd,fun e hm=>?_,?_⟩
 · obtain⟨x,hx,rfl⟩:=List.mem_map.1 hm
   have key:0≤x.Number∧x.Number≤w.Newest∧w.Newest - x.Number<s'∧x.Tags≠[]∧Tags x.Tags∧x.Tags.Nodup:=by
     have old:∀y∈w.Epochs,0≤y.Number∧y.Number≤w.Newest∧w.Newest - y.Number<s'∧y.Tags≠[]∧Tags y.Tags∧y.Tags.Nodup:=fun y hy=>by
       obtain⟨a,b,c,d,f⟩:=h.ep y hy
       exact⟨a,b,by omega,d,fun t htt=>hT t ((mx hy).subset htt),h.nodup.sublist (mx hy)⟩
     rw[wg] at hx
     split at hx
     · exact old x hx
     · rename_i hne
       rcases wh hx with hx|rfl|⟨y,hy,hyn,rfl⟩
       · exact old x hx
       · exact⟨he.1,he.2.1,he.2.2,hne,hTf,pv⟩
       · obtain⟨a,b,c,d,f,g⟩:=old y hy
         refine⟨a,b,c,by simp[hne],fun t htt=>?_,?_⟩
         · rcases List.mem_append.1 htt with k|k
           · exact hTf t k
           · exact f t k
         · exact hnd.sublist ((List.Sublist.refl _).append (mx hy))
   obtain⟨k1,k2,k3,k4,k5,k6⟩:=key
   refine⟨k1,k2,k3,fun e=>k4 ?_,mw k5 k6⟩
   have:=(f7 x.Tags).length_eq
   have e:msort x.Tags=[]:=e
   rw[e] at this
   exact List.eq_nil_of_length_eq_zero this.symm
 · refine List.pairwise_map.2 ?_
   show List.Pairwise (fun a b:af=>a.Number<b.Number) _
   rw[wg]
   split
   · exact h.inc
   · exact zT h.inc
end
end Go.Proofs.YtobbmodjdkcdcaaGreatDoor
set_option linter.unusedVariables false
set_option linter.unusedSimpArgs false
namespace Go.Proofs.YtobbmodjdkcdcaaGreatDoor
open Go Go.Sim
set_option linter.unusedSectionVars false
variable [Fu]
theorem wi {α:Type} (xs:List α):(xs.map (bOne (α:=α))).sum=xs.length:=by
 induction xs with
 |nil=>rfl
 |cons x xs ih=>simp[bOne] at ih⊢;omega
theorem B7 {w:aa} (hg:lJ w) (hb:gF w≤1048576):dt w:=by
 obtain⟨h1,⟨h2,h3⟩,_⟩:=hg
 have hsum:(cR w).length+w.Epochs.length≤(w.Epochs.map fG).sum:=by
  have:∀es:List af,(∀e∈es,kL e)→(es.flatMap (·.Tags)).length+es.length≤(es.map fG).sum:=by
   intro es hes
   induction es with
   |nil=>simp
   |cons e es ih=>
    have i1:=ih fun x hx=>hes x (by simp[hx])
    obtain⟨_,⟨g2,_⟩,_⟩:=hes e (by simp)
    have h16:e.Tags.length≤(e.Tags.map (bArr bOne)).sum:=by
     have:∀ts:List (List Int),(∀t∈ts,gArr 16 (gInt .u8) t)→ts.length≤(ts.map (bArr bOne)).sum:=by
      intro ts hts
      induction ts with
      |nil=>simp
      |cons t ts ih2=>
       have i2:=ih2 fun x hx=>hts x (by simp[hx])
       have i3:=(hts t (by simp)).2
       have:bArr bOne t=t.length:=wi t
       simp only[List.map_cons,List.sum_cons,List.length_cons,this];omega
     exact this _ g2
    have hbe:fG e=bOne e.Number+(bSl (bArr bOne) e.Tags+0):=rfl
    have hb2:bSl (bArr bOne) e.Tags=(e.Tags.map (bArr bOne)).sum+1:=rfl
    simp only[List.flatMap_cons,List.length_append,List.map_cons,List.sum_cons,List.length_cons,hbe,hb2]
    omega
  exact this _ h2
 have hbw:gF w=bOne w.Newest+(((w.Epochs.map fG).sum+1)+0):=rfl
 refine⟨h1,fun e he=>(h2 e he).1,fun t ht=>?_,by unfold lenOf;omega,by omega⟩
 obtain⟨e,he,het⟩:=List.mem_flatMap.1 ht
 obtain⟨_,⟨g2,_⟩,_⟩:=h2 e he
 exact⟨(g2 t het).2,fun b hb=>(g2 t het).1 b hb⟩
end Go.Proofs.YtobbmodjdkcdcaaGreatDoor
set_option linter.unusedVariables false
set_option linter.unusedSimpArgs false
namespace Go.Proofs.YtobbmodjdkcdcaaGreatDoor
open Go Go.Sim
set_option linter.unusedSectionVars false
variable [Fu]
section
variable {w:aa}
theorem CN (hw:dt w):okB w=true↔VW w 8 4096:=by
 have:=vf hw (s:=8) (r:=4096)
 unfold okB;rw[this]
 exact⟨fun h=>h.2,fun h=>⟨by decide,h⟩⟩
theorem B8 (hw:dt w) {ep r:Int} {tags:List (List Int)} (ht:Tags tags) (h:(addW w ep tags r).2=0):VW (put w ep tags) 8 r∧dt (put w ep tags)∧(addW w ep tags r).1=put w ep tags:=by
 obtain⟨h1,h2,h3,h4,h5,h6⟩:=zU h
 have v:=vg ((CN hw).1 h3) ht hw.tag h4 (Int.le_refl _) h5
 refine⟨v,v.good h2 fun t htt=>?_,by rw[h6];rfl⟩
 rcases B6.1 htt with k|k
 · exact hw.tag t k
 · exact ht t k
theorem AX (hw:dt w) {ep r:Int} {tags:List (List Int)} (ht:Tags tags):dt (addW w ep tags r).1:=by
 by_cases h:(addW w ep tags r).2=0
 · obtain⟨_,h2,h3⟩:=B8 hw ht h;rw[h3];exact h2
 · rw[B5 h];exact tP
end
end Go.Proofs.YtobbmodjdkcdcaaGreatDoor
