import Derived.Test.YtdkfkpbijdimkaaGreatDoorLawAes4
set_option linter.unusedVariables false
set_option linter.unusedSimpArgs false
set_option maxRecDepth 20000
set_option maxHeartbeats 1000000
namespace Go.Proofs.YtdkfkpbijdimkaaGreatDoor
open Go Go.Sim
set_option linter.unusedSectionVars false
variable [Fu]
theorem j0 {R:Type} {step:Int→Option (Ctl Int R)} {p:Nat→Bool} {good bad:R} {s0:Int} (b:Bool) (a n:Nat) (han:a≤n) (hb:b=true↔∃i,a≤i∧i<n∧p i=true)
  (h:∀i:Nat,a≤i→i<n→step (i:Int)=some (bif p i then .done bad else .next ((i+1:Nat):Int))) (hn:step (n:Int)=some (.done good)) (h0:s0=(a:Int)):
  Loop.run step s0=some (bif b then bad else good):=by
 subst h0
 have key:∀k a,n - a=k→a≤n→(∀i:Nat,a≤i→i<n→step (i:Int)=some (bif p i then .done bad else .next ((i+1:Nat):Int)))→
   ((∃i,a≤i∧i<n∧p i=true)→Loop.run step (a:Int)=some bad)∧((¬∃i,a≤i∧i<n∧p i=true)→Loop.run step (a:Int)=some good):=by
  intro k
  induction k with
  |zero=>
   intro a h1 h2 h3
   have:a=n:=by omega
   subst this
   exact⟨fun⟨i,h4,h5,_⟩=>by omega,fun _=>Loop.run_done hn⟩
  |succ k ih=>
   intro a h1 h2 h3
   have hs:=h3 a (Nat.le_refl _) (by omega)
   obtain⟨i1,i2⟩:=ih (a+1) (by omega) (by omega) (fun i h4 h5=>h3 i (by omega) h5)
   cases hp:p a with
   |true=>
    rw[hp,cond_true] at hs
    exact⟨fun _=>Loop.run_done hs,fun hno=>absurd ⟨a,Nat.le_refl _,by omega,hp⟩ hno⟩
   |false=>
    rw[hp,cond_false] at hs
    rw[Loop.run_next hs]
    refine⟨fun⟨i,h4,h5,h6⟩=>i1 ⟨i,?_,h5,h6⟩,fun hno=>i2 fun⟨i,h4,h5,h6⟩=>hno ⟨i,by omega,h5,h6⟩⟩
    have:i≠a:=fun e=>by rw[e,hp] at h6;cases h6
    omega
 obtain⟨k1,k2⟩:=key _ a rfl han h
 cases b with
 |true=>exact k1 (hb.1 rfl)
 |false=>exact k2 fun he=>by have:=hb.2 he;cases this
def nz (l:List Int):Bool:=l.any (· != 0)
theorem lQ {l:List Int} {a:Nat}:nz (l.drop a)=true↔∃i,a≤i∧i<l.length∧(l.getD i 0 != 0)=true:=by
 unfold nz
 rw[List.any_eq_true]
 constructor
 · rintro⟨x,hx,h⟩
   obtain⟨j,hj,e⟩:=List.getElem_of_mem hx
   simp only[List.length_drop] at hj
   refine⟨a+j,by omega,by omega,?_⟩
   rw[List.getElem_drop] at e
   have:l.getD (a+j) 0=x:=by rw[←e];simp[show a+j<l.length by omega]
   rw[this];exact h
 · rintro⟨i,h1,h2,h3⟩
   have e:l.getD i 0=l[i]:=by simp[h2]
   rw[e] at h3
   refine⟨l[i],?_,h3⟩
   rw[List.mem_iff_getElem]
   exact⟨i - a,by simp;omega,by simp[show a+(i - a)=i by omega]⟩
theorem jz {x:List Int} (h:x.length<2^30):cQ x=some (!nz x):=by
 unfold cQ
 rw[j0 (p:=fun i=>x.getD i 0 != 0) (good:= .inl ()) (bad:= .inr false) (nz x) 0 x.length (by omega) (by have:=lQ (l:=x) (a:=0);rw[List.drop_zero] at this;exact this) ?_ (lI (decide_eq_false (by omega))) (by rfl)]
 · cases nz x<;>rfl
 · intro i _ hi
   have h1:decide ((i:Int)<(x.length:Int))=true:=decide_eq_true (by omega)
   rw[h1,cond_true,cR rfl hi]
   simp only[au]
   rw[wrap64 (by omega)];cases x.getD i 0 != 0<;>rfl
theorem j6 {x:List Int} {z:Int} {a:Nat} (hz:z=a) (ha:a≤x.length) (h:x.length<2^30):bK x z=some (!nz (x.drop a)):=by
 unfold bK
 rw[j0 (p:=fun i=>x.getD i 0 != 0) (good:= .inl ()) (bad:= .inr false) (nz (x.drop a)) a x.length ha lQ ?_ (lI (decide_eq_false (by omega))) hz]
 · cases nz (x.drop a)<;>rfl
 · intro i _ hi
   have h1:decide ((i:Int)<(x.length:Int))=true:=decide_eq_true (by omega)
   rw[h1,cond_true,cR rfl hi]
   simp only[au]
   rw[wrap64 (by omega)];cases x.getD i 0 != 0<;>rfl
theorem lf {c:List Int} {n:Nat}:((c.length:Int) != (n:Int))=(c.length != n):=by
 rw[Bool.eq_iff_iff];simp only[bne_iff_ne];omega
end Go.Proofs.YtdkfkpbijdimkaaGreatDoor
