import Derived.Test.YtobbmodjdkcdcaaGreatDoorLawPeel
set_option linter.unusedVariables false
set_option linter.unusedSimpArgs false
set_option maxRecDepth 20000
set_option maxHeartbeats 1000000
namespace Go.Proofs.YtobbmodjdkcdcaaGreatDoor
open Go Go.Sim
set_option linter.unusedSectionVars false
variable [Fu]
theorem uW {R:Type} {step:Int→Option (Ctl Int R)} {p:Nat→Bool} {good:R} {bad:Nat→R} {s0:Int} (b:Bool) (n:Nat) (hb:b=true↔∃i,i<n∧p i=true)
   (h:∀i:Nat,i<n→step (i:Int)=some (bif p i then .done (bad i) else .next ((i+1:Nat):Int))) (hn:step (n:Int)=some (.done good)) (h0:s0=0):
   ∃r,Loop.run step s0=some r∧(b=false→r=good)∧(b=true→∃i,i<n∧r=bad i):=by
 subst h0
 have key:∀k a,n - a=k→a≤n→(∃i,a≤i∧i<n∧p i=true∧Loop.run step (a:Int)=some (bad i))∨((¬∃i,a≤i∧i<n∧p i=true)∧Loop.run step (a:Int)=some good):=by
   intro k
   induction k with
   |zero=>
    intro a h1 h2
    have:a=n:=by omega
    subst this
    exact .inr ⟨fun⟨i,h4,h5,_⟩=>by omega,Loop.run_done hn⟩
   |succ k ih=>
    intro a h1 h2
    have hs:=h a (by omega)
    cases hp:p a with
    |true=>
     rw[hp,cond_true] at hs
     exact .inl ⟨a,Nat.le_refl _,by omega,hp,Loop.run_done hs⟩
    |false=>
     rw[hp,cond_false] at hs
     rw[Loop.run_next hs]
     rcases ih (a+1) (by omega) (by omega) with⟨i,i1,i2,i3,i4⟩|⟨i1,i2⟩
     · exact .inl ⟨i,by omega,i2,i3,i4⟩
     · refine .inr ⟨fun⟨i,h4,h5,h6⟩=>i1 ⟨i,?_,h5,h6⟩,i2⟩
       have:i≠a:=fun e=>by rw[e,hp] at h6;cases h6
       omega
 rcases key _ 0 rfl (by omega) with⟨i,i1,i2,i3,i4⟩|⟨i1,i2⟩
 · exact⟨_,i4,fun hf=>(by have:=hb.2 ⟨i,i2,i3⟩;rw[hf] at this;cases this),fun _=>⟨i,i2,rfl⟩⟩
 · exact⟨_,i2,fun _=>rfl,fun ht=>by obtain⟨i,j1,j2⟩:=hb.1 ht;exact absurd ⟨i,by omega,j1,j2⟩ i1⟩
def hasL (ts:List (List Int)) (t:List Int):Bool:=ts.any fun x=>x==t
def hasS (w:aa) (t:List Int):Bool:=w.Epochs.any fun e=>hasL e.Tags t
structure wc (w:aa):Prop where
 eps:w.Epochs.length≤1048576
 tags:∀e∈w.Epochs,e.Tags.length≤1048576
theorem zK {α:Type} {xs:List α} {p:α→Bool} (d:α):xs.any p=true↔∃i,i<xs.length∧p (xs.getD i d)=true:=by
 rw[List.any_eq_true]
 constructor
 · rintro⟨x,hx,h⟩
   obtain⟨i,hi,rfl⟩:=List.getElem_of_mem hx
   exact⟨i,hi,by simpa[hi] using h⟩
 · rintro⟨i,hi,h⟩
   exact⟨xs[i],List.getElem_mem hi,by simpa[hi] using h⟩
theorem xM {ts:List (List Int)} {t:List Int} (hl:ts.length≤1048576):fb ts t=some (hasL ts t):=by
 unfold fb iY
 obtain⟨r,h1,h2,h3⟩:=uW (step:=(fun x29=>
  bif decide (x29<(ts.length:Int)) then
   (idx ts x29).bind fun x37=>
   bif t==x37 then
    some (.done (.inr x29))
   else
    some (.next (IntKind.wrap .i64 (x29+1)))
  else
   some (.done (.inl ())) : Int → Option (Ctl Int (Unit ⊕ Int)))) (p := fun i => ts.getD i [] == t) (good := .inl ()) (bad := fun i => .inr (i : Int)) (hasL ts t) ts.length (zK []) (by
   intro i hi
   have h1:decide ((i:Int)<(ts.length:Int))=true:=decide_eq_true (by omega)
   rw[h1,cond_true,cS [] rfl hi]
   simp only[ae]
   have e:(t==ts.getD i [])=(ts.getD i []==t):=Bool.beq_comm
   rw[e,wrap64 (by omega)];cases ts.getD i []==t<;>rfl) (gU (decide_eq_false (by omega))) rfl
 rw[h1]
 cases hc:hasL ts t with
 |true=>obtain⟨i,_,rfl⟩:=h3 hc;simp
 |false=>rw[h2 hc];rfl
theorem tq {w:aa} (hw:wc w) {t:List Int}:gN w t=some (hasS w t):=by
 unfold gN cj cK
 have he:=hw.eps
 obtain⟨r,h1,h2,h3⟩:=uW (step:=(fun x29=>
  bif decide (x29<(w.Epochs.length:Int)) then
   (idx w.Epochs x29).bind fun x37=>
   (gu x37 t).bind fun y40=>
   bif y40 then
    some (.done (.inr x29))
   else
    some (.next (IntKind.wrap .i64 (x29+1)))
  else
   some (.done (.inl ())) : Int → Option (Ctl Int (Unit ⊕ Int)))) (p := fun i => hasL (w.Epochs.getD i ⟨0, []⟩).Tags t) (good := .inl ()) (bad := fun i => .inr (i : Int)) (hasS w t) w.Epochs.length (zK (xs := w.Epochs) (p := fun e => hasL e.Tags t) ⟨0, []⟩) (by
   intro i hi
   have h1:decide ((i:Int)<(w.Epochs.length:Int))=true:=decide_eq_true (by omega)
   rw[h1,cond_true,cS ⟨0,[]⟩ rfl hi]
   simp only[ae]
   have ht:=hw.tags _ (List.getElem_mem hi)
   have e:w.Epochs.getD i ⟨0,[]⟩=w.Epochs[i]:=by simp[hi]
   unfold gu
   rw[e,xM ht]
   simp only[ae]
   rw[wrap64 (by omega)];cases hasL w.Epochs[i].Tags t<;>rfl) (gU (decide_eq_false (by omega))) rfl
 rw[h1]
 cases hc:hasS w t with
 |true=>obtain⟨i,_,rfl⟩:=h3 hc;simp
 |false=>rw[h2 hc];rfl
theorem lF (c:am):∃b,dg c=some b:=by
 unfold dg
 have key:∀(x a b e:Int) (y:Bool),∃z,(bif y then(cf x a b).bind fun y4=>some y4 else some false:Option Bool)=some z:=fun x a b e y=>by cases y<;>exact⟨_,rfl⟩
 obtain⟨z1,e1⟩:=key c.Left 1 8 0 ((c.Master.length:Int)==32)
 rw[e1];simp only[ae]
 obtain⟨z2,e2⟩:=key c.Span 1 8 0 z1
 rw[e2];simp only[ae]
 obtain⟨z3,e3⟩:=key c.Room 0 4096 0 z2
 rw[e3];simp only[ae]
 obtain⟨z4,e4⟩:=key c.Den 1 1000 0 z3
 rw[e4];simp only[ae]
 obtain⟨z5,e5⟩:=key c.Num 0 c.Den 0 z4
 rw[e5];simp only[ae]
 obtain⟨z6,e6⟩:=key c.Noise 0 16 0 z5
 rw[e6];simp only[ae]
 obtain⟨z7,e7⟩:=key c.Chunks 1 64 0 z6
 rw[e7];simp only[ae]
 obtain⟨z8,e8⟩:=key c.Workers 1 64 0 z7
 rw[e8];simp only[ae]
 obtain⟨z9,e9⟩:=key c.Cap 0 1024 0 z8
 rw[e9];simp only[ae]
 obtain⟨z10,e10⟩:=key c.Shards 1 64 0 z9
 rw[e10];exact⟨_,rfl⟩
theorem ia {α β:Type} [BEq α] [LawfulBEq α] {x y:α} {v:β} (h:(x==y)=false):∀{ps:List (α×β)},mfind x (mset y v ps)=mfind x ps
 |[]=>by simp[mset,mfind,h]
 |p::ps=>by
  unfold mset
  cases hy:(y==p.1) with
  |true=>
   have:=eq_of_beq hy
   simp only[cond_true]
   unfold mfind
   rw[←this,h];rfl
  |false=>
   simp only[cond_false]
   unfold mfind
   rw[ia h]
section
variable (P:Nat→an×Int) (w:aa)
def okS (i:Nat):Bool:=(P i).2==0
def rpS (i:Nat):List Int:=(P i).1.Replay
def anyS (r:List Int) (i:Nat):Bool:=(List.range i).any fun k=>okS P k&&rpS P k==r
def hitS (i:Nat):Bool:=hasS w (rpS P i)||anyS P (rpS P i) i
def tt (s:List an×ai) (i:Nat):List an×ai:=
 bif okS P i then(bif hitS P w i then(s.1,{s.2 with Replays:=IntKind.wrap .i64 (s.2.Replays+1)}) else(s.1++[(P i).1],s.2))
 else(s.1,{s.2 with Malformed:=IntKind.wrap .i64 (s.2.Malformed+1)})
def stS (n:Nat):Nat→List an×ai
 |0=>([],⟨(n:Int),0,0,0,0⟩)
 |i+1=>tt P w (stS n i) i
def ea:Nat→List (List Int×Int)
 |0=>[]
 |i+1=>bif okS P i then mset (rpS P i) (IntKind.wrap .i64 (bY (rpS P i) (ea i) 0+1)) (mset (rpS P i) (bY (rpS P i) (ea i) 0) (ea i)) else ea i
theorem uX (r:List Int) (i:Nat):anyS P r (i+1)=(anyS P r i||(okS P i&&rpS P i==r)):=by
 unfold anyS;rw[List.range_succ,List.any_append];simp
theorem tu:∀(i:Nat) (r:List Int),i<2^40→0≤bY r (ea P i) 0∧bY r (ea P i) 0≤i∧(decide (bY r (ea P i) 0>0)=anyS P r i)
 |0,r,_=>by simp[ea,bY,mfind,anyS]
 |i+1,r,h=>by
  obtain⟨h1,h2,h3⟩:=tu i r (by omega)
  unfold ea
  rw[uX]
  cases ho:okS P i with
  |false=>simp only[cond_false,Bool.false_and,Bool.or_false];exact⟨h1,by omega,h3⟩
  |true=>
   simp only[cond_true,Bool.true_and]
   by_cases hr:rpS P i=r
   · subst hr
     have e:bY (rpS P i) (mset (rpS P i) (IntKind.wrap .i64 (bY (rpS P i) (ea P i) 0+1)) (mset (rpS P i) (bY (rpS P i) (ea P i) 0) (ea P i))) 0=bY (rpS P i) (ea P i) 0+1:=by
      rw[nV,wrap64 (by omega)]
     refine⟨by rw[e];omega,by rw[e];omega,?_⟩
     simp only[e]
     simp;omega
   · have hb:(rpS P i==r)=false:=beq_false_of_ne hr
     have hb':(r==rpS P i)=false:=beq_false_of_ne fun e=>hr e.symm
     have e:bY r (mset (rpS P i) (IntKind.wrap .i64 (bY (rpS P i) (ea P i) 0+1)) (mset (rpS P i) (bY (rpS P i) (ea P i) 0) (ea P i))) 0=bY r (ea P i) 0:=by
      unfold bY;rw[ia hb',ia hb']
     refine⟨by rw[e];exact h1,by rw[e];omega,?_⟩
     simp only[e]
     rw[hb,Bool.or_false];exact h3
theorem BO (n:Nat):∀i,(stS P w n i).1.length≤i
 |0=>by simp[stS]
 |i+1=>by
  have:=BO n i
  unfold stS tt
  cases okS P i<;>cases hitS P w i<;>simp<;>omega
end
noncomputable def pg (c:am) (w:aa) (b:aE):List an×ai×Int:=
 bif !((dg c).getD false) then([],⟨0,0,0,0,0⟩,210)
 else bif (keyS c.Master b.Header.Epoch).2 != 0 then([],⟨0,0,0,0,0⟩,(keyS c.Master b.Header.Epoch).2)
 else((stS (fun i=>li (keyS c.Master b.Header.Epoch).1 c.Left (b.Cells.getD i [])) w b.Cells.length b.Cells.length).1,(stS (fun i=>li (keyS c.Master b.Header.Epoch).1 c.Left (b.Cells.getD i [])) w b.Cells.length b.Cells.length).2,0)
theorem yV {c:am} {w:aa} {b:aE} (hw:wc w) (hc:∀x∈b.Cells,aS x) (hn:b.Cells.length<2^30):iZ c w b=some (pg c w b):=by
 unfold iZ pg
 obtain⟨rb,hr⟩:=lF c
 rw[hr]
 simp only[ae,Option.getD_some]
 cases rb with
 |false=>rfl
 |true=>
  simp only[Bool.not_true,cond_false]
  rw[qo]
  simp only[ae]
  cases hk:((keyS c.Master b.Header.Epoch).2 != 0) with
  |true=>rfl
  |false=>
   simp only[cond_false]
   have hkl:=s9 (key:=c.Master) (e:=b.Header.Epoch) (by simpa using hk)
   generalize (keyS c.Master b.Header.Epoch).1=key at*
   obtain⟨Q,hQ⟩:∃Q:Nat→an×Int,Q=fun i=>li key c.Left (b.Cells.getD i []):=⟨_,rfl⟩
   have hpe:∀i (hi:i<b.Cells.length),dL key c.Left (b.Cells.getD i [])=some (Q i):=fun i hi=>by
     rw[hQ]
     have e:b.Cells.getD i []=b.Cells[i]:=by simp[hi]
     show _=some (li key c.Left (b.Cells.getD i []))
     rw[e,od (by omega) (hc _ (List.getElem_mem hi))]
   rw[←hQ]
   rw[aV (fun i=>((stS Q w b.Cells.length i).1,(i:Int),(stS Q w b.Cells.length i).2,ea Q i)) 0 b.Cells.length (r:=((stS Q w b.Cells.length b.Cells.length).2,(stS Q w b.Cells.length b.Cells.length).1)) (by omega) ?_ (gU (decide_eq_false (by show¬(b.Cells.length:Int)<(b.Cells.length:Int);omega))) (by rfl)]
   · rfl
   · intro i _ hi
     have h1:decide ((i:Int)<(b.Cells.length:Int))=true:=decide_eq_true (by omega)
     simp only[h1,cond_true]
     rw[cS [] rfl hi]
     simp only[ae]
     rw[hpe i hi]
     simp only[ae]
     obtain⟨s1,s2,s3⟩:=tu Q i (rpS Q i) (by omega)
     have hlen:=BO Q w b.Cells.length i
     have hst:stS Q w b.Cells.length (i+1)=tt Q w (stS Q w b.Cells.length i) i:=rfl
     have hse:ea Q (i+1)=bif okS Q i then mset (rpS Q i) (IntKind.wrap .i64 (bY (rpS Q i) (ea Q i) 0+1)) (mset (rpS Q i) (bY (rpS Q i) (ea Q i) 0) (ea Q i)) else ea Q i:=rfl
     rw[hst,hse,wrap64 (x:=(i:Int)+1) (by omega)]
     generalize stS Q w b.Cells.length i=st at*
     generalize ea Q i=se at*
     unfold tt hitS
     have ho:((Q i).2 != 0)= !okS Q i:=rfl
     rw[ho]
     cases okS Q i with
     |false=>rfl
     |true=>
      have hrp:(Q i).1.Replay=rpS Q i:=rfl
      simp only[Bool.not_true,cond_false,cond_true]
      rw[hrp,tq hw,s3]
      cases anyS Q (rpS Q i) i with
      |true=>rw[Bool.or_true];rfl
      |false=>
       rw[Bool.or_false]
       simp only[cond_false,ae]
       cases hasS w (rpS Q i) with
       |true=>rfl
       |false=>
        simp only[cond_false]
        rw[bj (by simp[room];omega)];rfl
end Go.Proofs.YtobbmodjdkcdcaaGreatDoor
