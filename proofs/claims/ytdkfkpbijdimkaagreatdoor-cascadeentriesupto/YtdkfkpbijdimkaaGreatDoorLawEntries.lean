import Derived.Test.YtdkfkpbijdimkaaGreatDoorLawFeedK
import Derived.Test.YtdkfkpbijdimkaaGreatDoorLawCellO
set_option linter.unusedVariables false
set_option linter.unusedSimpArgs false
set_option linter.unusedSectionVars false
set_option maxRecDepth 20000
set_option maxHeartbeats 1000000
namespace Go.Proofs.YtdkfkpbijdimkaaGreatDoor
open Go Go.Sim
variable [Fu]
theorem mh {α β:Type} {o:Option α} {f g:α→Option β} (h:∀x,o=some x→f x=g x):o.bind f=o.bind g:=by
 cases o with
 |none=>rfl
 |some x=>exact h x rfl
theorem mi {α:Type} {xs:List α} {i:Int} {x:α} (h:idx xs i=some x):x∈xs:=by
 obtain⟨_,_,h3⟩:=du h
 exact List.mem_of_getElem? h3
theorem mN {raw:List Int} (hl:raw.length<2^30) (hb:aI raw):bd raw=aR raw:=by
 obtain⟨r,hr,hq,_,_⟩:=eU hl hb
 have hf:ju raw=r:=by rw[fA hl hb] at hr;exact Option.some.inj hr
 unfold bd aR
 rw[jw hl hb,fA hl hb,hf]
 simp only[au]
 cases he:r.2.2 != 0 with
 |true=>rfl
 |false=>
  obtain⟨_,_,hg⟩:=hq (by simpa using he)
  have hc:∀(i:Int) (x:List Int),idx r.1.Cells i=some x→bl x=cy x:=fun i x hx=>by
   have:=hg x (mi hx)
   rw[iX this.2,lJ this.2]
  have key:∀(i:Int) {β:Type} (g:List Int×Bool×Int→Option β),((idx r.1.Cells i).bind fun x=>(bl x).bind g)=((idx r.1.Cells i).bind fun x=>(cy x).bind g):=fun i β g=>
   mh fun x hx=>by rw[hc i x hx]
  simp only[key]<;>rfl
noncomputable def js (cells : List (List Int)) : ((List (List Int)) × Int) → Option (Ctl ((List (List Int)) × Int) ((List (List Int)) ⊕ ((List (List Int)) × Int))) := fun (x169, x170) =>
 bif decide (x170<(cells.length:Int)) then
  (((idx cells x170).bind fun x212=>
  (cy x212).bind fun y214=>
  bif y214.2.2 != 0 then
   some (.inl ([],y214.2.2))
  else
   bif y214.2.1 then
    (app x169 [y214.1]).bind fun z220=>
    some (.inr z220)
   else
    some (.inr x169)
   : Option (((List (List Int)) × Int) ⊕ (List (List Int))))).bind fun r209 => match r209 with
   | .inl z=>
    some (.done (.inr z))
   | .inr x208=>
    some (.next (x208,IntKind.wrap .i64 (x170+1)))
 else
  some (.done (.inl x169))
theorem mO {raw:List Int} (hl:raw.length<2^30) (hb:aI raw):∃r,aR raw=some r∧r.1.length≤256:=by
 obtain⟨r,hr,hq,_,_⟩:=eU hl hb
 unfold aR
 rw[hr,au]
 cases he:r.2.2 != 0 with
 |true=>exact⟨_,rfl,by simp⟩
 |false=>
  obtain⟨_,hn,hg⟩:=hq (by simpa using he)
  rw[cond_false]
  cases r.1.Header.Left != 0 with
  |true=>exact⟨_,rfl,by simp⟩
  |false=>
   rw[cond_false]
   generalize r.1.Cells=cells at*
   obtain ⟨q, h1, hQ⟩ := kY (S := ((List (List Int)) × Int)) (R := ((List (List Int)) ⊕ ((List (List Int)) × Int))) (step := js cells) (P := fun s => ∃ i : Nat, s.2 = i ∧ i ≤ cells.length ∧ s.1.length ≤ i) (Q := fun r => match r with | .inl l => l.length ≤ 256 | .inr p => p.1.length ≤ 256) (fun s => ((cells.length : Int) - s.2).toNat) (fun s hs => by
    obtain⟨acc,z⟩:=s
    obtain⟨i,hz,hi,ha⟩:=hs
    simp only at hz ha
    subst hz
    unfold js
    simp only
    by_cases hlt:i<cells.length
    · have h1:decide ((i:Int)<(cells.length:Int))=true:=decide_eq_true (by omega)
      rw[h1,cond_true,ij hlt]
      simp only[au]
      rw[iX (hg _ (List.getElem_mem hlt)).2]
      simp only[au]
      cases (iW cells[i]).2.2 != 0 with
      |true=>exact .inl ⟨_,rfl,by simp⟩
      |false=>
       simp only[cond_false]
       have w1:IntKind.wrap .i64 ((i:Int)+1)=((i+1:Nat):Int):=by rw[wrap64 (by omega)];omega
       cases (iW cells[i]).2.1 with
       |true=>
        rw[cond_true,cf (by rw[cX];simp;omega)]
        simp only[au,w1]
        exact .inr ⟨_,rfl,⟨i+1,rfl,by omega,by simp;omega⟩,by simp only;omega⟩
       |false=>
        simp only[cond_false,au,w1]
        exact .inr ⟨_,rfl,⟨i+1,rfl,by omega,by show acc.length≤i+1;omega⟩,by simp only;omega⟩
    · have h1:decide ((i:Int)<(cells.length:Int))=false:=decide_eq_false (by omega)
      rw[h1,cond_false]
      exact .inl ⟨_,rfl,by show acc.length≤256;omega⟩) (s:=([],0)) ⟨0,rfl,by omega,by simp⟩
   show∃r,(((Loop.run (js cells) ([],0)).bind _).bind _)=some r∧_
   rw[h1]
   cases q with
   |inl a=>exact⟨_,rfl,hQ⟩
   |inr a=>exact⟨_,rfl,hQ⟩
theorem jJ (l:List (List Int)) (h:l.length<2^30):bo l l=some true:=by
 unfold bo
 rw[bne_self_eq_false,cond_false]
 rw[d9 (s0:=0) (r:=Sum.inl ()) (fun i=>(i:Int)) 0 l.length (Nat.zero_le _) ?_ ?_ rfl]
 · rfl
 · intro i _ hi
   have h1:decide ((i:Int)<(l.length:Int))=true:=decide_eq_true (by omega)
   simp only[h1,cond_true]
   rw[ij hi,wrap64 (by omega)]
   simp only[au,bne_self_eq_false,cond_false]
   rfl
 · have h1:decide ((l.length:Int)<(l.length:Int))=false:=decide_eq_false (by omega)
   simp only[h1,cond_false]
end Go.Proofs.YtdkfkpbijdimkaaGreatDoor
