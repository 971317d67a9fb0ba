import Derived.Test.YtobbmodjdkcdcaaGreatDoorLawOrder
set_option linter.unusedVariables false
set_option linter.unusedSimpArgs false
set_option linter.unusedSectionVars false
set_option maxRecDepth 20000
set_option maxHeartbeats 1000000
namespace Go.Proofs.YtobbmodjdkcdcaaGreatDoor
open Go Go.Sim
variable [Fu]
section
variable (P:Nat→an×Int) (w:aa)
def qY (i:Nat):Bool:=okS P i&& !hitS P w i
def plS:Nat→List Nat
 |0=>[]
 |i+1=>bif qY P w i then plS i++[i] else plS i
theorem uS (n:Nat):∀i,(stS P w n i).1=(plS P w i).map (fun k=>(P k).1)
 |0=>rfl
 |i+1=>by
  have ih:=uS n i
  unfold stS tt plS qY
  cases okS P i with
  |false=>simpa using ih
  |true=>
   cases hitS P w i with
   |true=>simpa using ih
   |false=>simp[ih]
theorem yU:∀i,∀k∈plS P w i,k<i∧okS P k=true
 |0=>fun k hk=>(by cases hk)
 |i+1=>fun k hk=>by
  have ih:=yU i
  unfold plS at hk
  cases ht:qY P w i with
  |false=>
   rw[ht,cond_false] at hk
   have:=ih k hk
   exact⟨by omega,this.2⟩
  |true=>
   rw[ht,cond_true] at hk
   rcases List.mem_append.1 hk with hk|hk
   · have:=ih k hk
     exact⟨by omega,this.2⟩
   · have:=List.mem_singleton.1 hk
     subst this
     unfold qY at ht
     simp only[Bool.and_eq_true] at ht
     exact⟨by omega,ht.1⟩
theorem ta:∀i,(plS P w i).Nodup
 |0=>List.nodup_nil
 |i+1=>by
  unfold plS
  cases qY P w i with
  |false=>exact ta i
  |true=>
   rw[cond_true,List.nodup_append]
   refine⟨ta i,by simp,fun a ha b hb=>?_⟩
   have:=(yU P w i a ha).1
   have:=List.mem_singleton.1 hb
   omega
theorem BJ:∀i,(plS P w i).length≤i
 |0=>by simp[plS]
 |i+1=>by
  have:=BJ i
  unfold plS
  cases qY P w i<;>simp<;>omega
theorem uT:∀(i:Nat) (r:List Int),(mfind r (ea P i)).isSome=anyS P r i
 |0,r=>rfl
 |i+1,r=>by
  have ih:=uT i r
  rw[uX]
  unfold ea
  cases okS P i with
  |false=>simpa using ih
  |true=>
   simp only[cond_true,Bool.true_and]
   by_cases h:rpS P i=r
   · subst h
     rw[nU];simp
   · have h1:(r==rpS P i)=false:=by simpa using fun e=>h e.symm
     have h2:(rpS P i==r)=false:=by simpa using h
     rw[ia h1,ia h1,ih,h2];simp
end
noncomputable def cU (c:am) (b:aE) (i:Nat):an×Int:=li (keyS c.Master b.Header.Epoch).1 c.Left (b.Cells.getD i [])
noncomputable def bd (c:am) (w:aa) (b:aE):List Nat:=plS (cU c b) w b.Cells.length
theorem xx {c:am} {w:aa} {b:aE} (hw:wc w) (hc:∀x∈b.Cells,aS x) (hn:b.Cells.length≤256) (hk:(keyS c.Master b.Header.Epoch).2=0):
   io c w b=some ((bd c w b).map fun k:Nat=>(k:Int)):=by
 unfold io bd
 rw[qo]
 simp only[ae]
 have hkl:=s9 (key:=c.Master) (e:=b.Header.Epoch) (by simpa using hk)
 rw[hk]
 simp only[bne_self_eq_false,cond_false]
 have hpe:∀i (hi:i<b.Cells.length),dL (keyS c.Master b.Header.Epoch).1 c.Left b.Cells[i]=some (cU c b i):=fun i hi=>by
   have e:b.Cells.getD i []=b.Cells[i]:=by simp[hi]
   unfold cU
   rw[e,od (by omega) (hc _ (List.getElem_mem hi))]
 rw[aV (s0:=(([]:List Int),(0:Int),([]:List (List Int×Int)))) (r:=(plS (cU c b) w b.Cells.length).map fun k:Nat=>(k:Int)) (fun i=>((plS (cU c b) w i).map (fun k:Nat=>(k:Int)),(i:Int),ea (cU c b) i)) 0 b.Cells.length (Nat.zero_le _) ?_ ?_ rfl]
 · rfl
 · intro i _ hi
   have h1:decide ((i:Int)<(b.Cells.length:Int))=true:=decide_eq_true (by omega)
   simp only[h1,cond_true]
   rw[dK hi]
   simp only[ae]
   rw[hpe i hi]
   simp only[ae]
   have hlen:=BJ (cU c b) w i
   have hse:ea (cU c b) (i+1)=bif okS (cU c b) i then mset (rpS (cU c b) i) (IntKind.wrap .i64 (bY (rpS (cU c b) i) (ea (cU c b) i) 0+1)) (mset (rpS (cU c b) i) (bY (rpS (cU c b) i) (ea (cU c b) i) 0) (ea (cU c b) i)) else ea (cU c b) i:=rfl
   have hpl:plS (cU c b) w (i+1)=bif qY (cU c b) w i then plS (cU c b) w i++[i] else plS (cU c b) w i:=rfl
   have hss:=uT (cU c b) i (rpS (cU c b) i)
   have ho:((cU c b i).2 != 0)= !okS (cU c b) i:=rfl
   have hrp:(cU c b i).1.Replay=rpS (cU c b) i:=rfl
   rw[hse,hpl,wrap64 (x:=(i:Int)+1) (by omega),ho,hrp,hss,tq hw]
   generalize plS (cU c b) w i=pl at*
   generalize ea (cU c b) i=se at*
   unfold qY hitS
   cases okS (cU c b) i with
   |false=>rfl
   |true=>
    simp only[Bool.not_true,cond_false,cond_true,Bool.true_and]
    cases anyS (cU c b) (rpS (cU c b) i) i with
    |true=>simp only[Bool.or_true,Bool.not_true,cond_false,ae];rfl
    |false=>
     simp only[Bool.or_false,Bool.not_false,cond_true,ae]
     cases hasS w (rpS (cU c b) i) with
     |true=>rfl
     |false=>
      simp only[Bool.not_false,cond_true]
      rw[bj (by rw[dT];simp;omega)]
      simp only[ae,List.map_append,List.map_cons,List.map_nil]
      rfl
 · have h1:decide ((b.Cells.length:Int)<(b.Cells.length:Int))=false:=decide_eq_false (by omega)
   simp only[h1,cond_false]
end Go.Proofs.YtobbmodjdkcdcaaGreatDoor
